/-
 The statement GraphMoves: part 13.
 Conditions: none.
-/
import Derived.Test.YtgedmeaemofdkaaGreatR12
set_option maxRecDepth 100000
set_option maxHeartbeats 2000000
set_option linter.all false
open Inhabited renaming default->M
open Bool renaming true->La,false->Lc
open List renaming map->Lb,getD_eq_getElem?_getD->Le,getElem?_eq_getElem->Lh,range->Li,take->Lj,mem_append_right->Lk,length_map->Lm,mem_range->Ln,mem_append_left->Lo,length_take->Lp,mem_singleton->Lq,find?_eq_none->Lt,mem_append->Lu,find?_range_eq_some->Lx,map_append->Ly,nodup_nil->Lz,drop->LA,length_append->LB,mem_map->LC,map_drop->LF,map_set->LG,map_take->LH,getElem?_append_left->LI,getElem?_map->LL,getElem?_take->LM,ext_getElem->LS,getElem?_eq_some_iff->LU,getElem_map->LV,nodup_append->LW,getElem?_append_right->L1,getElem?_drop->L2,length_singleton->L3,pairwise_iff_getElem->L4,take_length->L5,append_assoc->Xa,getElem?_set_ne->Xb,getElem_mem->Xc,length_drop->Xd,mem_of_getElem?->Xe
open Decidable renaming decide->Ld,not_not->LD
open Option renaming none->Lf,some->Ll,getD_some->Lv,isSome_iff_exists->LQ,map_some->LR
open Nat renaming le_refl->Lg,not_lt_zero->Lr,ble->LN,le_of_ble_eq_true->LO,le_trans->LY,zero_add->LZ,zero_le->L6,beq->Xf,eq_of_beq_eq_true->Xg,lt_or_ge->Xh,sub_self->Xi
open Int renaming add_zero->Ls,add_assoc->Lw,toNat_natCast->L0,add_mul->L7,one_mul->L8,toNat->L9
open Go.Proofs.Tryz
namespace Go.Proofs.YtgedmeaemofdkaaGreat
open Go.Sx
def Zmf{h:Heap}{i o:Int}(e:(address h.C i o).2=0):adr h i o=4096+(i*h.C.pw+o)/\0<=i/\i<h.C.pg/\0<=o/\o<h.C.pw:=by
 unfold address at e;split at e
 .rename_i hv;split at e
  .rename_i hb;have hb':=hb;unfold inB at hb;simp at hb;refine⟨?_,by omega,by omega,by omega,by omega⟩;unfold adr address;rw[if_pos hv,if_pos hb']
  .simp at e
 .simp at e
def Z7j{h:Heap}{i:Int}:∀ {f:Nat} {o:Int},∀ x∈(Z1L h i f o).1,4096+(i*h.C.pw+o)<=x.addr/\x.addr<4096+(i*h.C.pw+h.C.pw)
 | 0,o,x,hx=>by simp[Z1L]at hx
 | f+1,o,x,hx=>by
  unfold Z1L at hx;split at hx
  .split at hx
   .rename_i h1;have ha:=Zmf h1.1;rcases List.mem_cons.1 hx with rfl | hx
    .simp only;omega
    .have:=Z7j x hx;have:=Z1u (atH h (adr h i o)).1;omega
   .simp at hx
  .simp at hx
def Zd1{h:Heap}{i:Int}:∀ {f:Nat} {o:Int},((Z1L h i f o).1.map (·.addr)).Pairwise (· < ·)
 | 0,o=>by simp[Z1L]
 | f+1,o=>by
  unfold Z1L;split
  .split
   .rename_i h1;have ha:=Zmf h1.1;have hs:=Z9i h1.2;rw[List.map_cons,List.pairwise_cons];refine⟨λy hy=>?_,Zd1⟩;obtain⟨x,hx,rfl⟩:=LC.1 hy;have:=(Z7j x hx).1;simp only;omega
   .simp
  .simp
def Z7t{h:Heap}{i:Int}:∀ x∈(Z0F h i).1,4096+i*h.C.pw<=x.addr/\x.addr<4096+(i+1)*h.C.pw:=by
 intro x hx;have e:(i+1)*h.C.pw=i*h.C.pw+h.C.pw:=by rw[L7,L8]
 unfold Z0F Z20 at hx;split at hx
 .split at hx
  .have:=Z7j x hx;omega
  .simp at hx
 .simp at hx
def Zez(h:Heap)(i:Int):((Z0F h i).1.map (·.addr)).Pairwise (· < ·):=by
 unfold Z0F Z20;split
 .split
  .exact Zd1
  .simp
 .simp
def ZcJ{h:Heap}(hw:0<=h.C.pw):∀ (f i:Nat),∀ x∈(allR h f i).1,4096+i*h.C.pw<=x.addr
 | 0,i,x,hx=>by simp[allR]at hx
 | f+1,i,x,hx=>by
  unfold allR at hx;split at hx
  .split at hx
   .rcases Lu.1 hx with hx | hx
    .exact(Z7t x hx).1
    .have:=ZcJ hw f (i+1) x hx;have e:((i+1:Nat):Int)*h.C.pw=i*h.C.pw+h.C.pw:=by push_cast;rw[L7,L8]
     omega
   .simp at hx
  .simp at hx
def Zgf{h:Heap}(hw:0<=h.C.pw):∀ (f i:Nat),((allR h f i).1.map (·.addr)).Pairwise (· < ·)
 | 0,i=>by simp[allR]
 | f+1,i=>by
  unfold allR;split
  .split
   .rw[Ly,List.pairwise_append];refine⟨Zez h i,Zgf hw f (i+1),λa ha b hb=>?_⟩;obtain⟨x,hx,rfl⟩:=LC.1 ha;obtain⟨y,hy,rfl⟩:=LC.1 hb;have h1:=(Z7t x hx).2;have h2:=ZcJ hw f (i+1) y hy;have e:((i+1:Nat):Int)*h.C.pw=((i:Int)+1)*h.C.pw:=by push_cast;rfl
    omega
   .simp
  .simp
def Zgm(h:Heap):(Z0P h).1.Pairwise (· < ·):=by
 rw[ZaK h];unfold allW;split
 .rename_i hp;exact Zgf (by have:=Z07 hp;omega) _ _
 .simp
def Z4v(h:Heap):(Z04 h).1.Pairwise (· < ·):=by
 unfold Z04;exact(Zgm h).filter _
def posB(l:List Int)(v:Int):Nat:=(l.takeWhile (λx=>Ld (x<v))).length
def ZiI(l:List Int)(v:Int):posB l v<=l.length:=by
 unfold posB;exact(List.takeWhile_sublist _).length_le
def ZdW{l:List Int}{v:Int}(hs:l.Pairwise (· < ·)){k:Nat}(hk:k<l.length):(l.getD k M<v↔k<posB l v):=by
 have e:l.getD k M=l[k]:=by rw[Le,Lh hk];rfl
 rw[e];constructor
 .intro h;by_cases hc:k<posB l v
  .exact hc
  .exfalso;have hp:posB l v<l.length:=by omega
   have h2:=Zfz (λx=>Ld (x<v)) l hp;have h3:¬ l[posB l v]<v:=by
    have:Ld (l[posB l v]<v)=Lc:=h2;simpa using this
   rcases Xh (posB l v) k with hlt | hge
   .have:=L4.1 hs (posB l v) k hp hk hlt;omega
   .have:posB l v=k:=by omega
    simp only[this]at h3;exact h3 h
 .intro h;obtain⟨h1,h2⟩:=Zky _ _ _ h;simpa using h2
def ZlW{l:List Int}{v:Int}(hs:l.Pairwise (· < ·)):(v∈l↔posB l v<l.length/\l.getD (posB l v) M=v):=by
 constructor
 .intro h;obtain⟨k,hk,e⟩:=List.getElem_of_mem h;have e2:l.getD k M=v:=by rw[Le,Lh hk,<- e];rfl
  have h1:¬ k<posB l v:=λq=>by have:=(ZdW (v:=v) hs hk).2 q;omega
  have h2:k=posB l v:=by
   rcases Xh (posB l v) k with hlt | hge
   .have hp:posB l v<l.length:=by omega
    have h3:¬ l.getD (posB l v) M<v:=λq=>by have:=(ZdW (v:=v) hs hp).1 q;omega
    have h4:=L4.1 hs (posB l v) k hp hk hlt;have e5:l.getD (posB l v) M=l[posB l v]:=by rw[Le,Lh hp];rfl
    omega
   .omega
  subst h2;exact⟨hk,e2⟩
 .rintro⟨h1,h2⟩;rw[<- h2,Le,Lh h1];exact Xc h1
def ZaA(x:Int):GP 174 [u64 x] La (bool Lc) []:=by
 exact gF [] func174 [La] (Fbs ((x != x)=Lc) Fz)
def Zmv(x:Int):GP 208 [u64 x] La (bool Lc) []:=by
 exact gF [] func208 [La] (Fbs ((x != x)=Lc) Fz)
def Zj6(x y:Int):GP 173 [u64 x,u64 y] La (bool (Ld (x<y))) []:=by
 exact gF [] func173 [] (Fc 6 (@Zmv x) (FcG 9 Lc (λhg=>by(try simp only[bs]at hg);exact @Zmv y) Fz))
def bsL(l:List Int)(v:Int)(i j:Nat):Tg:=⟨tm 54 [(0,Z02 l),(1,u64 v),(4,int 0),(5,bool Lc),(6,int l.length),(7,int i),(8,int j)],[],60⟩
section
variable (l:List Int) (v:Int) (hl:l.length<=1048576) (i j:Nat) (hij:i<j) (hj:j<=l.length)
include hl hij hj
theorem ZoJ(hlt:l.getD ((i+j)/2) M<v):CP (rndF f127 0) (bsL l v i j).st .nrm (bsL l v ((i+j)/2+1) j).st:=by
 rcases bb (Ld (l.getD (((i:Int)+(j:Int))/2).toNat M<v))with hc0 | hc0<;>have hc0p:=hc0<;>simp only[bs]at hc0p
 .let y0:=(i:Int)+(j:Int);exact sF [] [] (Fh 27 [.call La (Sx.bool (Ld (l.getD (y0/2).toNat M<v))) [],.br La] (Ftb 15 (Ld ((i:Int)<(j:Int))) (Fi 18 y0 (Fv 19 y0 (Fg 20 (by exact Z5U rfl dd:y0.fdiv (2^min (L9 1) 64)=y0/2) (Fo ((0:Int)<=1) (Fi 21 (y0/2) (Fe 24 wdv l (y0/2) (Fa (@Zj6 (l.getD (y0/2).toNat M) v) (Fa hc0 (Fi 29 (y0/(2:Int)+1) Fz)))))))))))
 .contradiction
theorem Zpi(hlt:¬ l.getD ((i+j)/2) M<v):CP (rndF f127 0) (bsL l v i j).st .nrm (bsL l v i ((i+j)/2)).st:=by
 rcases bb (Ld (l.getD (((i:Int)+(j:Int))/2).toNat M<v))with hc0 | hc0<;>have hc0p:=hc0<;>simp only[bs]at hc0p
 .contradiction
 .let y0:=(i:Int)+(j:Int);exact sF [] [] (Fh 27 [.call La (Sx.bool (Ld (l.getD (y0/2).toNat M<v))) [],.br Lc] (Ftb 15 (Ld ((i:Int)<(j:Int))) (Fi 18 y0 (Fv 19 y0 (Fg 20 (by exact Z5U rfl dd:y0.fdiv (2^min (L9 1) 64)=y0/2) (Fo ((0:Int)<=1) (Fi 21 (y0/2) (Fe 24 wdv l (y0/2) (Fa (@Zj6 (l.getD (y0/2).toNat M) v) (Fa hc0 Fz))))))))))
end
def ZoO(l:List Int)(v:Int)(i:Nat):CP (rndF f127 0) (bsL l v i i).st (.ext 0) (Tg.st ⟨tm 54 [(0,Z02 l),(1,u64 v),(6,int l.length),(7,int i)],[],60⟩):=by
 exact sF [] [] (Ffb 15 (Ld ((i:Int)<(i:Int))) Fz)
def bsGo(l:List Int)(v:Int)(hl:l.length<=1048576)(hs:l.Pairwise (· < ·)):∀ (f i j:Nat),j<=i+f->i<=posB l v->posB l v<=j->j<=l.length ->
  LSpec prog f127 0 (bsL l v i j).st (.ext 0) (Tg.st ⟨tm 54 [(0,Z02 l),(1,u64 v),(6,int l.length),(7,int (posB l v))],[],60⟩):=by
 intro f;induction f with
 | zero =>
  intro i j h1 h2 h3 h4;obtain⟨rfl,rfl⟩:i=posB l v/\j=posB l v:=by omega
  exact .endx (ZoO l v _)
 | succ f ih =>
  intro i j h1 h2 h3 h4;by_cases hij:i<j
  .have hp:=ZdW hs (v:=v) (k:=(i+j)/2) oq;by_cases hlt:l.getD ((i+j)/2) M<v
   .have:=hp.1 hlt;exact .next (ZoJ l v hl i j hij h4 hlt) (ih ((i+j)/2+1) j oq oq h3 h4)
   .have:¬ (i+j)/2<posB l v:=λq=>hlt (hp.2 q);exact .next (Zpi l v hl i j hij h4 hlt) (ih i ((i+j)/2) oq h2 oq oq)
  .obtain⟨rfl,rfl⟩:i=posB l v/\j=posB l v:=by omega
   exact .endx (ZoO l v _)
def ZjY(l:List Int)(v:Int)(hl:l.length<=1048576)(hs:l.Pairwise (· < ·)):CP (blkF f127 0) (Tg.st ⟨tm 54 [(0,Z02 l),(1,u64 v),(4,int 0),(5,bool Lc),(6,int l.length),(7,int 0),(8,int l.length)],[],60⟩) .nrm
  (Tg.st ⟨tm 54 [(0,Z02 l),(1,u64 v),(6,int l.length),(7,int (posB l v))],[],60⟩) :=
 (bsGo l v hl hs l.length 0 l.length oq oq (ZiI l v) (Lg _)).ext kr
def bsearch(l:List Int)(v:Int)(hl:l.length<=1048576)(hs:l.Pairwise (· < ·)):GP 127 [Z02 l,u64 v] La (.tu [int (posB l v),bool (Ld (v∈l))]) []:=by
 have hm:=ZlW (v:=v) hs;have hp:=ZiI l v;by_cases h1:posB l v<l.length
 .by_cases h2:l.getD (posB l v) M=v
  .have e:Ld (v∈l)=La:=by simpa using hm.2 ⟨h1,h2⟩
   rw[e];exact gF [] func127 (fO 24) (Fl 11 wdv l (Fu (@ZjY l v aa aa) (FeG 38 (Ld ((↑(posB l v):Int)<(l.length:Int))) wdv l (↑(posB l v):Int) (posB l v) (FeG 45 (Ld ((↑(posB l v):Int)<(l.length:Int))&&!l.getD (posB l v) M==v) wdv l (↑(posB l v):Int) (posB l v) (FcG 47 (Ld ((↑(posB l v):Int)<(l.length:Int))&&!l.getD (posB l v) M==v) (λhg=>by(try simp only[bs]at hg);exact @ZaA (l.getD (posB l v) M)) (FcG 50 (Ld ((↑(posB l v):Int)<(l.length:Int))&&!l.getD (posB l v) M==v&&Lc) (λhg=>by(try simp only[bs]at hg);exact @ZaA v) (Fr (↑(posB l v):Int) (Fb ((Ld ((↑(posB l v):Int)<(l.length:Int))&&(l.getD (posB l v) M==v||Lc))=La) Fz))))))))
  .have e:Ld (v∈l)=Lc:=by
    simp only[decide_eq_false_iff_not];exact λq=>h2 (hm.1 q).2
   rw[e];exact gF [] func127 (fO 24) (Fl 11 wdv l (Fu (@ZjY l v aa aa) (FeG 38 (Ld ((↑(posB l v):Int)<(l.length:Int))) wdv l (↑(posB l v):Int) (posB l v) (FeG 45 (Ld ((↑(posB l v):Int)<(l.length:Int))&&!l.getD (posB l v) M==v) wdv l (↑(posB l v):Int) (posB l v) (FcG 47 (Ld ((↑(posB l v):Int)<(l.length:Int))&&!l.getD (posB l v) M==v) (λhg=>by(try simp only[bs]at hg);exact @ZaA (l.getD (posB l v) M)) (FcG 50 (Ld ((↑(posB l v):Int)<(l.length:Int))&&!l.getD (posB l v) M==v&&Lc) (λhg=>by(try simp only[bs]at hg);exact @ZaA v) (Fr (↑(posB l v):Int) (Fbs ((Ld ((↑(posB l v):Int)<(l.length:Int))&&(l.getD (posB l v) M==v||Lc))=Lc) Fz))))))))
 .have e:Ld (v∈l)=Lc:=by
   simp only[decide_eq_false_iff_not];exact λq=>h1 (hm.1 q).1
  rw[e];exact gF [] func127 (fO 24) (Fl 11 wdv l (Fu (@ZjY l v aa aa) (FeG 38 (Ld ((↑(posB l v):Int)<(l.length:Int))) wdv l (↑(posB l v):Int) (posB l v) (FeG 45 (Ld ((↑(posB l v):Int)<(l.length:Int))&&!l.getD (posB l v) M==v) wdv l (↑(posB l v):Int) (posB l v) (FcG 47 (Ld ((↑(posB l v):Int)<(l.length:Int))&&!l.getD (posB l v) M==v) (λhg=>by(try simp only[bs]at hg);exact @ZaA (l.getD (posB l v) M)) (FcG 50 (Ld ((↑(posB l v):Int)<(l.length:Int))&&!l.getD (posB l v) M==v&&Lc) (λhg=>by(try simp only[bs]at hg);exact @ZaA v) (Fr (↑(posB l v):Int) (Fb ((Ld ((↑(posB l v):Int)<(l.length:Int))&&(l.getD (posB l v) M==v||Lc))=Lc) Fz))))))))
def Zdr{w:Int}(h:(decodeH w).2=La):(Z0e w).2=Lc:=by
 unfold decodeH at h;split at h
 .rename_i c;unfold Z0a at c;split at c
  .simp only at c;unfold Z0e;rw[if_neg oq]
  .simp at c
 .cases h
structure OnW (h:Heap) (T:Nat->List Int) (w:Work):Prop where
 c:Col h T w
 m:MI h T w
 q:∀ y∈w.old,Z21 w y≠0->Z21 w y∈w.Q
 z:∀ y∈w.old,Z21 w y=0->y∉w.Q/\(Z0e (loadA w.heap.W y).1).2=Lc
 n:w.rep.copied+w.rep.kept=w.Q.length
def Z77{h:Heap}{T:Nat->List Int}(g:Gd h T){y:Int}(hy:y∈(beginW h).old):Z21 (beginW h) y=0/\(Z0e (loadA h.W y).1).2=Lc:=by
 obtain⟨i,hi,hk⟩:=((KI.begin g).old y).1 hy;have t:=Zdr (g.on hi).2.2.2.2.2.1;refine⟨?_,t⟩;unfold Z21;rw[if_neg (by simp[beginW]),if_neg (by show ¬ (Z0e (loadA h.W y).1).2=La;rw[t];simp)]
def OnW.begin{h:Heap}{T:Nat->List Int}(g:Gd h T)(hw:WOk h.W):OnW h T (beginW h) :=
 ⟨Col.begin g hw,MI.begin g,λy hy q=>absurd (Z77 g hy).1 q,λy hy _=>⟨by simp[beginW],(Z77 g hy).2⟩,rfl⟩
section
variable {h:Heap} {T:Nat->List Int} {w:Work} (o:OnW h T w) (g:Gd h T) (mv:MV h) {r:Int} (hr:r∈w.old)
include o g mv hr
theorem OnW.new(hs:Z21 w r=0):∃ i0,r∈T i0/\(w.fwd r).2.2=0/\NewF h T w r i0 (w.fwd r).1 (w.fwd r).2.1:=by
 obtain⟨tq,k⟩:=o.c.k;obtain⟨i0,hx,hk⟩:=(k.old r).1 hr;have z:=o.z r hr hs;exact⟨i0,hx,ZmF g o.m k o.c.ok mv hx hk z.1 z.2⟩
theorem OnW.same(hs:Z21 w r≠0):w.fwd r=(w,Z21 w r,0):=by
 unfold Work.fwd Z21 at *;split at hs
 .rename_i q;rw[if_pos (.inr q),if_pos q]
 .rename_i q;split at hs
  .rename_i q2;obtain⟨tq,k⟩:=o.c.k;obtain⟨i0,hx,hk⟩:=(k.old r).1 hr;have:=g.inw hx;have c:¬ (r=0\/r∈w.Q):=by
    rintro(c | c)
    .omega
    .exact q c
   rw[if_neg c,if_neg (by simpa using hr),if_pos q2,if_neg q,if_pos q2]
  .exact absurd rfl hs
theorem OnW.seen:(w.fwd r).2.1≠0/\Z21 (w.fwd r).1 r=(w.fwd r).2.1/\(∀ y∈w.old,y≠r->Z21 (w.fwd r).1 y=Z21 w y)/\(w.fwd r).1.old=w.old /\
  ((w.fwd r).1.Q.length:Int)=w.Q.length+(if Z21 w r=0 then 1 else 0):=by
 by_cases hs:Z21 w r=0
 .obtain⟨i0,hx,e,N⟩:=o.new g mv hr hs;have z:=o.z r hr hs;have b:=N.b;obtain⟨tq,k⟩:=o.c.k;refine⟨by omega, ?_,λy hy hne=>?_,N.o,by rw[if_pos hs,N.q];simp⟩
  .unfold Z21;rw[N.q];by_cases q:(w.fwd r).2.1=r
   .rw[if_pos (by rw[q];simp)];exact q.symm
   .rw[if_neg (by simp only[Lu,Lq];rintro(c | c);exact z.1 c;exact q c.symm),N.c q];simp
  .obtain⟨j,hj,_⟩:=(k.old y).1 hy;have t:=N.t j y hj hne;unfold Z21;rw[N.q,t.2];have:(y∈w.Q++[(w.fwd r).2.1])↔y∈w.Q:=by
    simp only[Lu,Lq];exact⟨λc=>c.elim id λc=>absurd c.symm t.1,.inl⟩
   simp only[this]
 .rw[o.same g mv hr hs];exact⟨hs,rfl,λ_ _ _=>rfl,rfl,by rw[if_neg hs];simp⟩
theorem OnW.fwd:OnW h T (w.fwd r).1:=by
 by_cases hs:Z21 w r=0
 .obtain⟨i0,hx,e,N⟩:=o.new g mv hr hs;obtain⟨s1,s2,s3,s4,s5⟩:=o.seen g mv hr;obtain⟨tq,k⟩:=o.c.k;refine⟨o.c.fwd g e,o.m.fwd g k o.c.ok mv o.c.inv e,λy hy hne=>?_,λy hy h0=>?_,by rw[N.n,o.n,N.q];simp⟩
  .rw[s4]at hy;rw[N.q];by_cases q:y=r
   .subst q;rw[s2];simp
   .rw[s3 y hy q]at hne ⊢;exact Lo _ (o.q y hy hne)
  .rw[s4]at hy;by_cases q:y=r
   .subst q;rw[s2]at h0;exact absurd h0 s1
   .rw[s3 y hy q]at h0;have z:=o.z y hy h0;obtain⟨j,hj,_⟩:=(k.old y).1 hy;have t:=N.t j y hj q;rw[N.q,t.2];refine⟨?_,z.2⟩;simp only[Lu,Lq];rintro(c | c)
    .exact z.1 c
    .exact t.1 c.symm
 .rw[o.same g mv hr hs];exact o
end
def Zog{α β:Type}{f:α->β}{l:List α}(h:l≠[]):l.map f≠[]:=by simpa using h
structure BField where
 width:Int
 value:Int
 deriving DecidableEq,Inhabited
def BField.dv(f:BField):List DV:=[.sc (.int .i64 f.width),.sc (.int .u64 f.value)]
end Go.Proofs.YtgedmeaemofdkaaGreat
namespace Go.Sx
def mvP(ids:List Nat)(post:List Blk)(n:Nat):List Blk:=(upto 0 n).map λk=>match idxN k ids 0 with
 | some j=>Z3D ids (post.getD j .dead)
 | none=>.dead
def mvOk(m p n:Nat)(ids:List Nat):Bool:=Xf ids.length p&&LN m p&&LN m n&&nodupB ids&&(upto 0 p).all (λj=>LN (ids.getD j 0+1) n&&(Xf (ids.getD j 0) j||LN m (ids.getD j 0)))&&(upto 0 n).all λk=>match idxN k ids 0 with | Ll _=>La | Lf=>LN (k+1) m
def Zl6{P:Program}{f:Nat}{args:List AV}{pre:List Blk}{res:AV}{post:List Blk}(ids:List Nat)(n:Nat){res2:AV}{post2:List Blk}(h:BorSpec P f args pre res post)(ok:mvOk pre.length post.length n ids=La)(hr:mapT (renI ids) res=res2)(hp:mvP ids post n=post2):BorSpec P f args pre res2 post2:=by
 simp only[mvOk,Bool.and_eq_true,List.all_eq_true,Bool.or_eq_true]at ok;obtain⟨⟨⟨⟨⟨k1,k2⟩,k3⟩,k4⟩,k5⟩,k6⟩:=ok;have k1:=Xg k1;have k2:=LO k2;have k3:=LO k3;have k4:=Z31 k4;have mem:∀ {j p:Nat},j<p->j∈upto 0 p:=λ{j p} hj=>Xe (by rw[Z7L _ _ _ hj,LZ]);have k5:∀ j,j<post.length->ids.getD j 0<n/\(ids.getD j 0=j\/pre.length<=ids.getD j 0):=λj hj=>by
  have:=k5 j (mem hj);exact⟨LO this.1,this.2.imp Xg LO⟩
 have k6:∀ k,k<n->idxN k ids 0=Lf->k<pre.length:=λk hk e=>by
  have:=k6 k (mem hk);rw[e]at this;exact LO this
 subst hr hp;have pl:(mvP ids post n).length=n:=by simp[mvP,Z7V]
 have pg:∀ (k:Nat) (B:Blk),(mvP ids post n)[k]? = Ll B->k<n/\((∃ j,ids[j]? = Ll k/\j<post.length/\B=Z3D ids (post.getD j .dead))\/(k<pre.length/\B = .dead)):=λk B hB=>by
  have hk:k<n:=by have:=(LU.1 hB).1;omega
  simp only[mvP,LL,Z7L _ _ _ hk,LZ,LR,Option.some.injEq]at hB;refine⟨hk, ?_⟩;cases e:idxN k ids 0 with
  | none=>rw[e]at hB;exact .inr ⟨k6 k hk e,hB.symm⟩
  | some j =>
   rw[e]at hB;obtain⟨_,q⟩:=Z1Q e;have q:ids[j]? = Ll k:=by simpa using q
   exact .inl ⟨j,q,by have:=(LU.1 q).1;omega,hB.symm⟩
 intro w Im ρ vs hIm hsz hρ hinj hbnd hpre hargs;refine(h w Im ρ vs hIm hsz hρ hinj hbnd hpre hargs).mono ?_;rintro e w' ⟨v,rfl,hk,ρ',Im',a1,a2,a3,a4,a5,a6,a7,a8,a9⟩;let ρ2:Rho:=λk=>if k<pre.length then ρ' k else match idxN k ids 0 with | Ll j=>ρ' j | Lf=>Lf
 have hlow:∀ k,k<pre.length->ρ2 k=ρ' k:=λk hk=>by simp only[ρ2,if_pos hk]
 have hat:∀ (j k:Nat),ids[j]? = Ll k->ρ2 k=ρ' j:=λj k q=>by
  have hj:j<post.length:=by have:=(LU.1 q).1;omega
  have e:ids.getD j 0=k:=by rw[Le,q];rfl
  have c:=k5 j hj;rw[e]at c;by_cases hkp:k<pre.length
  .rw[hlow k hkp];rcases c.2 with c | c
   .rw[c]
   .omega
  .simp only[ρ2,if_neg hkp];cases ex:idxN k ids 0 with
   | none=>exact absurd (Xe q) (Z4b ex)
   | some j2 =>
    obtain⟨_,q2⟩:=Z1Q ex;rw[Z4u k4 q (by simpa using q2)]
 have hfrom:∀ k β,ρ2 k=Ll β->∃ j,ρ' j=Ll β/\k<n:=λk β hb=>by
  by_cases hkp:k<pre.length
  .rw[hlow k hkp]at hb;exact⟨k,hb,by omega⟩
  .simp only[ρ2,if_neg hkp]at hb;split at hb
   .rename_i j hj;obtain⟨_,q⟩:=Z1Q hj;have q:ids[j]? = Ll k:=by simpa using q
    have hj:j<post.length:=by have:=(LU.1 q).1;omega
    have:=k5 j hj;rw[Le,q]at this;exact⟨j,hb,this.1⟩
   .cases hb
 have hren:∀ j β,ρ' j=Ll β->ρ2 (ids.getD j 0)=Ll β:=λj β hb=>by
  have hj:=a2 j β hb;have q:ids[j]? = Ll (ids.getD j 0):=by rw[Le,Lh oq];rfl
  rw[hat j _ q];exact hb
 have hlv:∀ k,live (hL (mvP ids post n)) k->∃ j,ids[j]? = Ll k/\live (hL post) j:=by
  rintro k ⟨B,hB,hd⟩;obtain⟨_,⟨j,q1,q2,q3⟩ | ⟨_,q⟩⟩:=pg k B hB
  .refine⟨j,q1,post[j],Lh q2,λe=>hd ?_⟩;rw[q3,Le,Lh q2];simp only[Lv,e,Z3D]
  .exact absurd q hd
 refine⟨v,rfl,hk,ρ2,Im',λk β hb=>?_,λk β hb=>?_,a3,a4,λk β g hb=>?_,λk β g hl hb=>?_,λk k' β β' g hl hl' hb hb' hg hg'=>?_,λk B hB=>?_, ?_⟩
 .rw[hlow k (hρ k β hb)];exact a1 k β hb
 .obtain⟨j,_,q⟩:=hfrom k β hb;rw[pl];exact q
 .obtain⟨j,q,_⟩:=hfrom k β hb;exact a5 j β g q
 .obtain⟨j,q1,q2⟩:=hlv k hl;rw[hat j k q1]at hb;exact a6 j β g q2 hb
 .obtain⟨j,q1,q2⟩:=hlv k hl;obtain⟨j',q1',q2'⟩:=hlv k' hl';rw[hat j k q1]at hb;rw[hat j' k' q1']at hb';have:=a7 j j' β β' g q2 q2' hb hb' hg hg';subst this;rw[q1]at q1';exact Option.some.inj q1'
 .obtain⟨_,⟨j,q1,q2,rfl⟩ | ⟨q,rfl⟩⟩:=pg k B hB
  .obtain⟨β,m1,m2⟩:=a8 j _ (Lh q2);rw[Le,Lh q2];exact⟨β,by rw[hat j k q1];exact m1,Z8V (λ_ h=>h) hren m2⟩
  .obtain⟨β,m1,_⟩:=hpre k _ (Lh q);exact⟨β,by rw[hlow k q];exact a1 k β m1,trivial⟩
 .obtain⟨q1,q2,q3⟩:=Z84 (w:=w') (Im:=Im') (Im':=Im') hren;exact Z7T (λ_ h=>h) q1 q2 q3 a9
end Go.Sx
namespace Go.Proofs.YtgedmeaemofdkaaGreat
open Go.Sx
def Zbq(c:Nat):GP 123 [.d (.sc (.slice Lf 0 c))] La (.ow 0) [.arr 35 1 []] :=
 gspec_ofE [((2:Nat),[Hint.own])] [] [(24002:Nat)] dd func123 [] (φ:=Z1p []) (λ_ h=>nomatch h) kr kr
def Z9y(p:Addr)(c:Nat):GP 123 [.d (.sc (.slice (Ll p) 0 c))] La (.ow 0) [.arr 35 1 []]:=by
 exact gF [24007] func123 [] (Fs 5 (Lb wdv []) (Fa (by simp[*]:(Lb wdv []).length+([]:List (List DV)).length<=2^30) (Fs 7 (Lb wdv []) (Fa (by exact Z4k _:Z1p (Lb wdv [])) Fz))))
def ZdJ(ws:List Int)(hw:ws.length<=1048576)(hne:ws≠[]):GP 123 [Z02 ws] La (.ow 0) [.arr 35 1 (ws.map wdv)]:=by
 exact gF [24007] func123 [] (Fa (by exact Zog hne:Lb wdv ws≠[]) (FA 5 7 wdv ws (Fa (by exact Z4k _:Z1p (Lb wdv ws)) Fz)))
def ZeD(ws:List Int)(hw:ws.length<=1048576):GP 123 [Z02 ws] La (.ow 0) [.arr 35 1 (ws.map wdv)]:=by
 by_cases hne:ws=[]
 .subst hne;exact ZeR λp c=>match p with | Lf=>Zbq c | Ll p=>Z9y p c
 .exact ZdJ ws hw hne
structure LnOk (w:Work):Prop where
 wl:w.heap.W.length<=1048576
 pl:w.heap.P.length<=1048576
 ol:w.old.length<=1048576
 tl:w.T.length<=1048576
 ql:w.Q.length<=1048576
def CkOk.ln{w:Work}(k:CkOk w):LnOk w:=by
 have h1:=k.ok.mu;have h2:=k.ok.ol;have h3:=k.ok.wl;have h4:=k.ok.pl;have h5:=validB_iff.1 k.ok.C;have h6:=k.ok.tl;exact⟨by omega,by omega,by omega,by omega,by omega⟩
def Work.took(w:Work):Work:=⟨⟨w.heap.C,w.heap.W,Z2u w,w.heap.S,w.heap.B⟩,w.old,w.T++[Z0p w],w.Q,w.D,w.rep⟩
def Z6x(h:Header)(i:Int)(hm:0<=h.map/\h.map<=4294967295):GP 162 [h.av,int i] La (bool (Z0c h i)) []:=by
 rcases bb (!Z0d h||Ld (i<0)||Ld (h.length<=i))with hc0 | hc0<;>have hc0p:=hc0<;>simp only[bs]at hc0p
 .exact gF [] func162 (fO 6) (Fc 6 (@Z35 h aa) (Ft 17 hc0 (Fa (by grind[Z0c]:Lc=Z0c h i) Fz)))
 .obtain⟨⟨hc0paa,hc0pab⟩,hc0pb⟩:=hc0p;have hf3:=validH_iff.1 hc0paa;obtain⟨hf3a,⟨hf3ba,⟨hf3bba,⟨hf3bbba,hf3bbbb⟩⟩⟩⟩:=hf3;exact gF [] func162 (fO 17) (Fc 6 (@Z35 h aa) (Ff 17 hc0 (Fa (by intro hg;(try simp only[bs]at hg);omega:(!h.K==2&&h.K==1)=La->0<=i) (Fa (by exact Zmo h i hm aa oq oq:(h.K==2||h.K==1&&bits BinOp.and IntKind.u32 (h.map.fdiv (2^min i.toNat 32)) (1:Int)==1)=Z0c h i) Fz))))
def hptL(h:Header)(i:Nat):Tg:=⟨tm 19 [(1,.pt 8001 0 0),(2,.d (.sl 0 [])),(3,.ow 16003),(6,int (sizeH h)),(7,int i)],[(16003,.arr 3 1 ((Z0G h i).map idv)),(8001,.box 52 [int h.K,int h.length,u32 h.map])],60⟩
def Zlv(h:Header)(i:Nat)(hm:0<=h.map/\h.map<=4294967295)(hi:(i:Int)<sizeH h):CP (rndF f110 0) (hptL h i).st .nrm (hptL h (i+1)).st:=by
 have hn:=Z5B h i;have hs:=Z1u h;by_cases hp:Z0c h (i:Int)=La
 .have e:Z0G h (i+1)=Z0G h i++[(i:Int)]:=by rw[Z0G,if_pos hp]
  exact sF [(504016,16003)] (fO 5) (Fh 12 [.call La (Sx.bool (Z0c h (i:Int))) [],.br La] (Fh 16 [.els (Lb idv (Z0G h i++[(i:Int)]))] (Ftb 8 (Ld ((i:Int)<sizeH h)) (Fa (@Z6x h ((i:Int)) aa) (Fa ‹Z0c h (i:Int)=La› (Fs 15 (Lb idv [(i:Int)]) (Fa (by(simp[*];omega):(Lb idv (Z0G h i)).length+(Lb idv [(i:Int)]).length<=2^30) (Fa (ms:Lb idv (Z0G h i)++Lb idv [(i:Int)]=Lb idv (Z0G h i++[(i:Int)])) (Fx 17 i (Fr (3:Int) (Fa (by refine congrArg _ ?_;rw[e]:Lb idv (Z0G h i++[(i:Int)])=Lb idv (Z0G h (i+1))) Fz)))))))))))
 .have e:Z0G h (i+1)=Z0G h i:=by rw[Z0G,if_neg hp]
  have hp':Z0c h (i:Int)=Lc:=by simpa using hp
  exact sF [] (fO 5) (Fh 12 [.call La (Sx.bool (Z0c h (i:Int))) [],.br Lc] (Ftb 8 (Ld ((i:Int)<sizeH h)) (Fa (@Z6x h ((i:Int)) aa) (Fa ‹Z0c h (i:Int)=Lc› (Fx 17 i (Fr (3:Int) (Fa (by refine congrArg _ ?_;rw[e]:Lb idv (Z0G h i)=Lb idv (Z0G h (i+1))) Fz)))))))
def Zp6(h:Header)(i:Nat)(hi:(i:Int)=sizeH h):CP (rndF f110 0) (hptL h i).st (.ext 0) (Tg.st ⟨tm 19 [(2,.d (.sl 0 [])),(3,.ow 16003)],[(16003,.arr 3 1 ((Z0G h i).map idv))],60⟩):=by
 exact sF [] [] (Ffb 8 (Ld ((i:Int)<sizeH h)) Fz)
def ZdF(h:Header):Z0G h (sizeH h).toNat=Z01 h:=by
 unfold Z01 sizeH;by_cases hv:Z0d h=La
 .rw[if_pos hv,if_pos hv];have hb:=validH_iff.1 hv;rw[show(h.length+1).toNat=h.length.toNat+1 from by omega,Z0G,if_neg];unfold Z0c;simp;omega
 .rw[if_neg hv,if_neg hv];rfl
def Zo4(h:Header)(hm:0<=h.map/\h.map<=4294967295):CP (blkF f110 0) (Tg.st ⟨tm 19 [(1,.pt 8001 0 0),(2,.d (.sl 0 [])),(3,.ow 16003),(6,int (sizeH h)),(7,int 0)],[(16003,.arr 3 1 []),(8001,.box 52 [int h.K,int h.length,u32 h.map])],60⟩) .nrm (Tg.st ⟨tm 19 [(2,.d (.sl 0 [])),(3,.ow 16003)],[(16003,.arr 3 1 ((Z01 h).map idv))],60⟩):=by
 have hs:=Z1u h;rw[<- ZdF];exact Z0b (S:=λi=>(hptL h i).st) (sizeH h).toNat kr (λi hi=>Zlv h i hm oq) (Zp6 h _ oq)
def Z3Y(h:Header)(hm:0<=h.map/\h.map<=4294967295):GP 110 [h.av] La (.d (.sl 1 ((Z01 h).map idv))) []:=by
 exact gF [] func110 [] (Fh 3 [.own] (Fc 6 (@Z1o h aa) (Fu (@Zo4 h aa) (Fa (by exact Zgk _:Z1p (Lb idv (Z01 h))) Fz))))
structure StpOk (w:Work) (a:Int) (l:List Int):Prop where
 f:∀ k,k<l.length->(∀ j,j<k->innE w a l j=0)->FwOk (innN w a l k) (loadA (innN w a l k).heap.W (a+1+l.getD k M)).1
 h:∀ k,k<=l.length->(∀ j,j<k->innE w a l j=0)->(innN w a l k).heap.W.length=w.heap.W.length
 m:∀ k,k<l.length->(∀ j,j<k->innE w a l j=0)->((innN w a l k).fwd (loadA (innN w a l k).heap.W (a+1+l.getD k M)).1).2.2=0->((innN w a l k).fwd (loadA (innN w a l k).heap.W (a+1+l.getD k M)).1).1.heap.W.length=w.heap.W.length
structure Z5K (w:Work):Prop where
 k:CkOk w
 sc:0<=w.D
 hr:w.D<w.Q.length->4096<=w.Q.getD w.D.toNat M/\w.Q.getD w.D.toNat M+hlA w.heap.W (w.Q.getD w.D.toNat M)<4096+w.heap.W.length
 hd:w.D<w.Q.length->(decodeH (loadA w.heap.W (w.Q.getD w.D.toNat M)).1).2=La
 hN:w.D<w.Q.length->StpOk w (Z1G w) (Z0T w)
def KI.sd{h:Heap}{T:Nat->List Int}:∀ w n,(∃ tq,KI h T tq w)->∃ tq,KI h T tq (Z7H w n) :=
 λw n ⟨tq,k⟩=>⟨tq,k.c,k.sp,k.old,k.pl,k.wl,k.pg,k.tk,k.tk0,k.q,k.hd,k.dt,k.lg⟩
section
variable {h:Heap} {T:Nat->List Int} {w:Work} (c:Col h T w) (g:Gd h T)
include c g
theorem Col.dec{q:Int}(hq:q∈w.Q):(decodeH (loadA w.heap.W q).1).2=La:=by
 obtain⟨tq,k⟩:=c.k;rcases k.q q hq with⟨i,nt,hi,hk,hs⟩ | ⟨i,ti,hi⟩
 .rcases k.hd i q hi with e | e
  .rw[e];exact(g.on hi).2.2.2.2.2.1
  .exact absurd e.2.2 hs
 .exact(Z1C (k.tk i ti).2.2.2.2.2.1 hi).1
theorem Col.in1{q j:Int}(hq:q∈w.Q)(h0:0<=j)(h1:j<hlA w.heap.W q)(e:(w.fwd (loadA w.heap.W (q+1+j)).1).2.2=0):Col h T (w.in1 (q+1+j)):=by
 obtain⟨tq,k⟩:=c.k;exact⟨k.in1 g c.ok c.inv hq ⟨h0,h1⟩ e,(Zmx c.ok _ e).1,(Zil c.ok c.inv hq ⟨h0,h1⟩ e).1,c.so.fwd c.ok _ e⟩
theorem Col.step(e:(Z0r w).2.2=0):Col h T (Z0r w).1 :=
 ⟨ZbB (λw=>∃ tq,KI h T tq w) (λw q j hw hi ⟨_,k⟩ hq h0 h1 e=>k.in1 g hw hi hq ⟨h0,h1⟩ e) KI.sd c.ok c.inv c.k e,(Z7Y c.ok e).1,(Z9o c.ok c.inv e).1,ZbB (λw=>SpOk w.heap.P) (λw q j hw hi p hq h0 h1 e=>p.fwd hw _ e) (λ_ _ p=>p) c.ok c.inv c.so e⟩
theorem Col.roots{roots:List Int}(k:Nat)(he:∀ j,j<k->Z1W w roots j=0):Col h T (rootsN w roots k).1:=by
 induction k with
 | zero=>exact c
 | succ k ih=>exact(ih λj hj=>he j oq).fwd g (he k oq)
theorem Col.rootsF{roots:List Int}(e:(rootsF w roots).2.2=0):Col h T (rootsF w roots).1:=by
 cases hb:(Li roots.length).find? (λk=>Ld (Z1W w roots k≠0))with
 | none =>
  have h0:∀ j,j<roots.length->Z1W w roots j=0:=λj hj=>by
   have:=Lt.1 hb j (Ln.2 hj);simpa using this
  have e7:Go.Proofs.YtgedmeaemofdkaaGreat.rootsF w roots=((rootsN w roots roots.length).1,(rootsN w roots roots.length).2,0):=by unfold Go.Proofs.YtgedmeaemofdkaaGreat.rootsF;rw[hb]
  rw[e7];exact c.roots g _ h0
 | some i =>
  have e7:Go.Proofs.YtgedmeaemofdkaaGreat.rootsF w roots=(noWork,[],Z1W w roots i):=by unfold Go.Proofs.YtgedmeaemofdkaaGreat.rootsF;rw[hb]
  rw[e7]at e;have:=of_decide_eq_true (Lx.1 hb).1;exact absurd e this
end
def AF(w:Work):Prop:=∀ x∈w.old++w.Q,(Z0e (loadA w.heap.W x).1).2=Lc->∀ j,0<=j->j<hlA w.heap.W x->Z0c (hdA w.heap.W x) j=La->(loadA w.heap.W (x+1+j)).1=0\/(loadA w.heap.W (x+1+j)).1∈w.old++w.Q
structure SW (h:Heap) (T:Nat->List Int) (w:Work):Prop where
 o:OnW h T w
 a:AF w
def SW.begin{h:Heap}{T:Nat->List Int}(g:Gd h T)(hw:WOk h.W):SW h T (beginW h):=by
 refine⟨OnW.begin g hw,λx hx ht j h0 h1 hp=>?_⟩;have hx':x∈(beginW h).old:=by simpa[beginW]using hx
 obtain⟨i,hi,hk⟩:=((KI.begin g).old x).1 hx';refine(g.q i x j hi hk h0 h1 hp).imp id λ⟨k,h2,h3⟩=>?_;exact Lo _ (((KI.begin g).old _).2 ⟨k,h2,h3⟩)
section
variable {h:Heap} {T:Nat->List Int} {w:Work} (s:SW h T w) (g:Gd h T) (mv:MV h)
include s g mv
theorem SW.fwd{r:Int}(hr:r=0\/r∈w.Q\/r∈w.old):(w.fwd r).2.2=0/\SW h T (w.fwd r).1/\ToOk (w.fwd r).1 (w.fwd r).2.1:=by
 by_cases c1:r=0\/r∈w.Q
 .rw[Work.fwd,if_pos c1];exact⟨rfl,s,c1⟩
 have hr:r∈w.old:=(hr.resolve_left λq=>c1 (.inl q)).resolve_left λq=>c1 (.inr q);by_cases hs:Z21 w r=0
 .obtain⟨i0,hx,e,N⟩:=s.o.new g mv hr hs;refine⟨e,⟨s.o.fwd g mv hr, ?_⟩,Or.inr (by rw[N.q];simp)⟩;obtain⟨tq,k⟩:=s.o.c.k;have z:=s.o.z r hr hs;have same:=(Z2Q s.o.c.ok s.o.c.inv r e).2.2;have he:(loadA w.heap.W r).1=(loadA h.W r).1:=by
   rcases k.hd i0 r hx with q | q
   .exact q
   .rw[q.1]at z;cases z.2
  have ehl:hlA w.heap.W r=hlA h.W r:=(Z1E he).2.1;intro x hm ht j h0 h1 hp;rw[N.o,N.q]at hm ⊢;have more:∀ v,v∈w.old++w.Q->v∈w.old++(w.Q++[(w.fwd r).2.1]):=λv hv=>by
   rw[<- Xa];exact Lo _ hv
  by_cases xa:x=(w.fwd r).2.1
  .have e0:=N.x 0 oq (Z09 _ _).1;simp only[Ls]at e0;have eh:hdA (w.fwd r).1.heap.W x=hdA w.heap.W r:=by rw[hdA,xa,e0];rfl
   have el:hlA (w.fwd r).1.heap.W x=hlA w.heap.W r:=congrArg Header.length eh;rw[eh]at hp;rw[el]at h1;have ef:=N.x (1+j) oq oq;rw[<- Lw,<- Lw,<- xa]at ef;rw[ef];exact(s.a r (Lo _ hr) z.2 j h0 h1 hp).imp id (more _)
  .have hm':x∈w.old++w.Q:=by
    simp only[Lu,Lq]at hm ⊢;rcases hm with q | q | q
    .exact .inl q
    .exact .inr q
    .exact absurd q xa
   by_cases xr:x=r
   .exfalso;have:=N.c λq=>xa (xr.trans q.symm);rw[xr,this]at ht;cases ht
   .have e0:=same x hm' (.inr xr) 0 oq (Z09 _ _).1;rw[Ls]at e0;have eh:hdA (w.fwd r).1.heap.W x=hdA w.heap.W x:=by rw[hdA,hdA,e0]
    have el:hlA (w.fwd r).1.heap.W x=hlA w.heap.W x:=congrArg Header.length eh;rw[eh]at hp;rw[el]at h1;rw[e0]at ht;have ef:=same x hm' (.inr xr) (1+j) oq oq;rw[<- Lw]at ef;rw[ef];exact(s.a x hm' ht j h0 h1 hp).imp id (more _)
 .rw[s.o.same g mv hr hs];exact⟨rfl,s,Or.inr (s.o.q r hr hs)⟩
omit g mv in
theorem SW.dec(g:Gd h T){q:Int}(hq:q∈w.Q):(Z0e (loadA w.heap.W q).1).2=Lc:=Zdr (s.o.c.dec g hq)
omit s g mv in
theorem Zoq{w:Work}{r:Int}(e:(w.fwd r).2.2=0):r=0\/r∈w.Q\/r∈w.old:=by
 unfold Work.fwd at e;split at e
 .rename_i c;exact c.imp id .inl
 .split at e
  .simp at e
  .rename_i c;exact .inr (.inr (LD.1 c))
theorem SW.in1{q j:Int}(hq:q∈w.Q)(h0:0<=j)(h1:j<hlA w.heap.W q)(e:(w.fwd (loadA w.heap.W (q+1+j)).1).2.2=0):SW h T (w.in1 (q+1+j))/\∀ x∈w.Q,x∈(w.in1 (q+1+j)).Q/\hdA (w.in1 (q+1+j)).heap.W x=hdA w.heap.W x:=by
 obtain⟨_,s1,to⟩:=s.fwd g mv (Zoq e);have hw:=s.o.c.ok;have iv:=s.o.c.inv;obtain⟨tq,k⟩:=s.o.c.k;obtain⟨i1,x1⟩:=Z3z hw iv _ e;have m:=Zcw hw iv _ e;have hq1:=x1.q q hq;have hl1:=x1.l q hq;have hr:=i1.r q (Lk _ hq1);have hin:4096<=q+1+j/\q+1+j<4096+(w.fwd (loadA w.heap.W (q+1+j)).1).1.heap.W.length:=by omega
 have far:∀ x∈(w.fwd (loadA w.heap.W (q+1+j)).1).1.old++(w.fwd (loadA w.heap.W (q+1+j)).1).1.Q,∀ i,0<=i->i<=hlA (w.fwd (loadA w.heap.W (q+1+j)).1).1.heap.W x->x+i=q+1+j->x=q:=by
  intro x hx i a b c;have l1:=i1.s q (Lk _ hq1) x hx;have l2:=i1.s x hx q (Lk _ hq1);omega
 have hh:∀ x∈(w.fwd (loadA w.heap.W (q+1+j)).1).1.old++(w.fwd (loadA w.heap.W (q+1+j)).1).1.Q,loadA (w.in1 (q+1+j)).heap.W x=loadA (w.fwd (loadA w.heap.W (q+1+j)).1).1.heap.W x:=by
  intro x hx;simp only[Work.in1];rw[Z0l hin λc=>?_];have:=far x hx 0 oq (Z09 _ _).1 oq;omega
 refine⟨⟨⟨s.o.c.in1 g hq h0 h1 e,s.o.m.in1 g k mv hw iv hq ⟨h0,h1⟩ e,λy hy hne=>?_,λy hy hz=>?_,s1.o.n⟩, ?_⟩,λx hx=>⟨m.mem hx, ?_⟩⟩
 .have e3:Z21 (w.in1 (q+1+j)) y=Z21 (w.fwd (loadA w.heap.W (q+1+j)).1).1 y:=by
   unfold Z21;rw[hh y (Lo _ hy)];rfl
  rw[e3]at hne ⊢;exact s1.o.q y hy hne
 .have e3:Z21 (w.in1 (q+1+j)) y=Z21 (w.fwd (loadA w.heap.W (q+1+j)).1).1 y:=by
   unfold Z21;rw[hh y (Lo _ hy)];rfl
  rw[e3]at hz;rw[hh y (Lo _ hy)];exact s1.o.z y hy hz
 .intro x hx ht i a b hp;have hx:x∈(w.fwd (loadA w.heap.W (q+1+j)).1).1.old++(w.fwd (loadA w.heap.W (q+1+j)).1).1.Q:=hx;show _\/_∈(w.fwd (loadA w.heap.W (q+1+j)).1).1.old++(w.fwd (loadA w.heap.W (q+1+j)).1).1.Q;have e0:=hh x hx;have eh:hdA (w.in1 (q+1+j)).heap.W x=hdA (w.fwd (loadA w.heap.W (q+1+j)).1).1.heap.W x:=by rw[hdA,hdA,e0]
  have el:hlA (w.in1 (q+1+j)).heap.W x=hlA (w.fwd (loadA w.heap.W (q+1+j)).1).1.heap.W x:=congrArg Header.length eh;rw[eh]at hp;rw[el]at b;rw[e0]at ht;by_cases c:x+1+i=q+1+j
  .have:(loadA (w.in1 (q+1+j)).heap.W (x+1+i)).1=(w.fwd (loadA w.heap.W (q+1+j)).1).2.1:=by
    rw[c];simp only[Work.in1];rw[Z1s hin]
   rw[this];exact to.imp id (Lk _)
  .have:loadA (w.in1 (q+1+j)).heap.W (x+1+i)=loadA (w.fwd (loadA w.heap.W (q+1+j)).1).1.heap.W (x+1+i):=by
    simp only[Work.in1];rw[Z0l hin c]
   rw[this];exact s1.a x hx ht i a b hp
 .rw[hdA,hh x (Lk _ (m.mem hx))];exact m.h x hx
omit s g mv in
theorem Z9a(h:Header):∀ n:Nat,∀ x∈Z0G h n,Z0c h x=La
 | 0,x,hx=>by cases hx
 | n+1,x,hx=>by
  unfold Z0G at hx;split at hx
  .rename_i c;rcases Lu.1 hx with q | q
   .exact Z9a h n x q
   .rw[Lq.1 q];exact c
  .exact Z9a h n x hx
omit s g mv in
theorem Z3a(h:Header):∀ x∈Z01 h,Z0c h x=La:=by
 unfold Z01;split
 .exact Z9a h _
 .intro x hx;cases hx
theorem SW.inn{q:Int}(hq:q∈w.Q){l:List Int}(hl:∀ x∈l,(0<=x/\x<hlA w.heap.W q)/\Z0c (hdA w.heap.W q) x=La):∀ k,k<=l.length->(∀ j,j<k->innE w q l j=0)/\SW h T (innN w q l k)/\q∈(innN w q l k).Q/\hdA (innN w q l k).heap.W q=hdA w.heap.W q
 | 0,_=>⟨λj hj=>absurd hj (Lr j),s,hq,rfl⟩
 | k+1,hk=>by
  obtain⟨i1,i2,i3,i4⟩:=SW.inn hq hl k oq;have hx:=hl _ (getD_mem_iff.2 ⟨k,by omega,rfl⟩);have el:hlA (innN w q l k).heap.W q=hlA w.heap.W q:=congrArg Header.length i4;have af:=i2.a q (Lk _ i3) (i2.dec g i3) (l.getD k M) hx.1.1 (by rw[el];exact hx.1.2) (by rw[i4];exact hx.2);have e:innE w q l k=0:=(i2.fwd g mv (af.imp id λc=>(Lu.1 c).symm)).1;have n:=i2.in1 g mv i3 hx.1.1 (by rw[el];exact hx.1.2) e;refine⟨λj hj=>?_,n.1,(n.2 q i3).1,(n.2 q i3).2.trans i4⟩;by_cases c:j=k
  .rw[c];exact e
  .exact i1 j oq
theorem SW.step:(Z0r w).2.2=0/\SW h T (Z0r w).1:=by
 by_cases hs:w.D<w.Q.length
 .have hsc:=s.o.c.ok.sc;have hq:Z1G w∈w.Q:=getD_mem_iff.2 ⟨w.D.toNat,by omega,rfl⟩;obtain⟨i1,i2,_,_⟩:=s.inn g mv hq (l:=Z0T w) (λx hx=>⟨Z1S (hdW w (Z1G w)) x hx,Z3a (hdW w (Z1G w)) x hx⟩) (Z0T w).length (Lg _);have hb:(Li (Z0T w).length).find? (λk=>Ld (innE w (Z1G w) (Z0T w) k≠0))=Lf:=Lt.2 λj hj=>by simp[i1 j (Ln.1 hj)]
  have e7:Z0r w=(Z7H (innN w (Z1G w) (Z0T w) (Z0T w).length) (Z0T w).length,La,0):=by unfold Z0r;rw[if_pos hs,hb]
  have c:=s.o.c.step g (by rw[e7]);rw[e7]at c ⊢;exact⟨rfl,⟨c,⟨i2.o.m.m0,i2.o.m.m1,i2.o.m.m2,i2.o.m.m3,i2.o.m.m4,i2.o.m.m5⟩,i2.o.q,i2.o.z,i2.o.n⟩,i2.a⟩
 .have e7:Z0r w=(w,Lc,0):=by rw[Z0r,if_neg hs]
  rw[e7];exact⟨rfl,s⟩
theorem SW.it:∀ k,SW h T (itW w k)
 | 0=>s
 | k+1=>(SW.step (SW.it k) g mv).2
theorem SW.all:(allF w).2=0/\SW h T (allF w).1:=by
 obtain⟨k,hb⟩:=Z3A s.o.c.ok;have e:=(s.it g mv k).step g mv;have e7:allF w=((Z0r (itW w k)).1,0):=by rw[allF,hb];simp only[if_pos e.1]
 rw[e7];exact⟨rfl,e.2⟩
end
def Z8N(hd:Header)(fs:List Int):Nat->List Int
 | 0=>[]
 | i+1=>if Z0c hd (i:Int)=La then Z8N hd fs i++[fs.getD i M]else Z8N hd fs i
def Z62(h:Heap)(a:Int):List Int:=Z8N (getH h a).1 (Z0S h a).1 (Z0S h a).1.length
def addO(out:List Int)(r:Int):List Int:=if r=0\/r∈out then out else out++[r]
def addN(out refs:List Int):Nat->List Int
 | 0=>out
 | i+1=>addO (addN out refs i) (refs.getD i M)
def ZcW(hd:Header):∀ n:Nat,(Z0G hd n).Nodup
 | 0=>Lz
 | n+1=>by
  have ih:=ZcW hd n;unfold Z0G;split
  .rw[LW];refine⟨ih,by simp,λa ha b hb=>?_⟩;have:=(Z1V hd n a ha).2;rw[Lq]at hb;omega
  .exact ih
def Z7s(hd:Header):(Z01 hd).Nodup:=by
 unfold Z01;split
 .exact ZcW hd _
 .exact Lz
def Zab(hd:Header)(fs:List Int)(f:Int->Int):∀ n:Nat,(∀ k:Nat,k<n->fs.getD k M=f k)->Z8N hd fs n=(Z0G hd n).map f
 | 0,_=>rfl
 | n+1,h=>by
  unfold Z8N Z0G;rw[Zab hd fs f n (λk hk=>h k oq),h n oq];split
  .simp
  .rfl
def Gd.refs{h:Heap}{T:Nat->List Int}(g:Gd h T){i:Nat}{x:Int}(hx:x∈T i)(hk:kdA h.W x≠0):Z62 h x=(Z01 (hdA h.W x)).map λj=>(loadA h.W (x+1+j)).1:=by
 obtain⟨e,l,f⟩:=g.fields hx hk;unfold Z62;rw[e,Zab _ _ (λj=>(loadA h.W (x+1+j)).1) _ (λk hk=>f k oq),show(Z0S h x).1.length=(hlA h.W x).toNat by omega];unfold Z01;rw[if_pos (show Z0d (hdA h.W x)=La from Z22 _)];rfl
def ZhB{w:Work}(hw:WkOk w)(h:CIv w){n:Int}(hn:1<=n)(hp:n<=w.heap.C.pw)(hc:(w.place n).2.2=La):(w.place n).2.1∉w.Q:=by
 obtain⟨i,p,t,h1,h2,h3,h4,h5,h6,h7,h8,e⟩:=Z4e hw ⟨hn,hp⟩ hc;have hf:=h.f i h1 (by rcases h2 with h2 | h2;exact Or.inl h2;exact Or.inr h2.1);intro c;have q:=hf _ (Lk _ c);have:=Z09 w.heap.W (w.place n).2.1;omega
def Zej{l:List Int}{a:Int}(h:l.Nodup)(ha:a∉l):(l++[a]).Nodup:=by
 rw[LW];refine⟨h,by simp,λb hb c hc=>?_⟩;rw[Lq]at hc;rintro rfl;exact ha (hc▸hb)
def Zpb{w:Work}(hw:WkOk w)(h:CIv w){r:Int}(e:(w.fwd r).2.2=0)(nd:w.Q.Nodup):(w.fwd r).1.Q.Nodup:=by
 unfold Work.fwd at e ⊢;split at e
 .rename_i c1;rw[if_pos c1];exact nd
 rename_i c1;rw[if_neg c1];have c1':r∉w.Q:=λq=>c1 (.inr q);split at e
 .simp at e
 rename_i c2;rw[if_neg c2];have c2':r∈w.old:=LD.1 c2;split at e
 .rename_i c3;rw[if_pos c3];exact nd
 rename_i c3;rw[if_neg c3];split at e
 .simp at e
 rename_i c4;rw[if_neg c4];split at e
 .rename_i c5;rw[if_pos c5];exact Zej nd c1'
 rename_i c5;rw[if_neg c5];split at e
 .rename_i c6;rw[if_pos c6];exact Zej nd c1'
 rename_i c6;rw[if_neg c6];split at e
 .simp at e
 rename_i c7;rw[if_neg c7];have c7':(w.place (sizeH (hdW w r))).2.2=La:=by simpa using c7
 have hz:=h.z r c2';have hlr:=Z09 w.heap.W r;have hd:=Z2t w r;have hp:sizeH (hdW w r)<=w.heap.C.pw:=by
  rcases hz with hz | hz
  .exact absurd hz c6
  .omega
 obtain⟨i,p,t,p1,p2,p3,p4,p5,p6,p7,e8⟩:=Z49 hw ⟨by omega,hp⟩ c7';have hq:(w.place (sizeH (hdW w r))).1.Q=w.Q:=by rw[e8]
 show((w.place (sizeH (hdW w r))).1.Q++[_]).Nodup;rw[hq];exact Zej nd (ZhB hw h oq hp c7')
structure RO (h:Heap) (T:Nat->List Int) (w:Work) (out:List Int) (n:Nat):Prop where
 b:SW h T w
 nd:w.Q.Nodup
 l:w.Q.length=out.length
 i:∀ i,i<out.length->out.getD i M∈w.old/\Z21 w (out.getD i M)=w.Q.getD i M
 s:∀ y∈w.old,Z21 w y≠0->y∈out
 un:∀ y∈w.old,Z21 w y=0->∀ m,0<=m->m<=hlA h.W y->(loadA w.heap.W (y+m)).1=(loadA h.W (y+m)).1
 uq:∀ i,n<=i->i<out.length->∀ m,0<=m->m<=hlA h.W (out.getD i M)->(loadA w.heap.W (w.Q.getD i M+m)).1=(loadA h.W (out.getD i M+m)).1
def RO.begin{h:Heap}{T:Nat->List Int}(g:Gd h T)(hw:WOk h.W):RO h T (beginW h) [] 0 :=
 ⟨SW.begin g hw,Lz,rfl,λi hi=>absurd hi (Lr i),λy hy q=>absurd (Z77 g hy).1 q,λy hy _ m _ _=>rfl,λi _ hi=>absurd hi (Lr i)⟩
def Z4h{l:List Int}{a:Int}{k:Nat}:(l++[a]).getD k M=if k<l.length then l.getD k M else if k=l.length then a else M:=by
 simp only[Le];split
 .rename_i q;rw[LI q]
 .rename_i q;rw[L1 oq];split
  .rename_i q2;subst q2;simp
  .rename_i q2;rw[List.getElem?_eq_none qo];rfl
section
variable {h:Heap} {T:Nat->List Int} {w:Work} {out:List Int} {n:Nat} (o:RO h T w out n) (g:Gd h T) (mv:MV h)
include o g mv
theorem RO.fwd{r:Int}(hr:r=0\/r∈w.old):(w.fwd r).2.2=0/\RO h T (w.fwd r).1 (addO out r) n/\(w.fwd r).2.1=(if r=0 then 0 else Z21 (w.fwd r).1 r):=by
 rcases hr with rfl | hr
 .rw[Work.fwd,if_pos (.inl rfl),addO,if_pos (.inl rfl),if_pos rfl];exact⟨rfl,o,rfl⟩
 obtain⟨tq,k⟩:=o.b.o.c.k;obtain⟨i0,hx0,hk0⟩:=(k.old r).1 hr;have r0:r≠0:=by have:=g.inw hx0;omega
 rw[if_neg r0];by_cases hs:Z21 w r=0
 .obtain⟨i0,hx,e,N⟩:=o.b.o.new g mv hr hs;obtain⟨s1,s2,s3,s4,s5⟩:=o.b.o.seen g mv hr;have same:=(Z2Q o.b.o.c.ok o.b.o.c.inv r e).2.2;have no:r∉out:=λc=>by
   obtain⟨j,hj,ej⟩:=getD_mem_iff.1 c;have q:=(o.i j hj).2;rw[ej,hs]at q;have:=o.b.o.c.inv.r 0 (Lk _ (getD_mem_iff.2 ⟨j,by rw[o.l];exact hj,q.symm⟩));omega
  have ea:addO out r=out++[r]:=by rw[addO,if_neg (λc=>c.elim r0 no)]
  rw[ea];have hl:=o.l;refine⟨e,⟨(o.b.fwd g mv (.inr (.inr hr))).2.1,Zpb o.b.o.c.ok o.b.o.c.inv e o.nd,by rw[N.q,LB,LB,hl];rfl,λj hj=>?_,λy hy hy2=>?_,λy hy hy2 m m0 m1=>?_,λj hj hj2 m m0 m1=>?_⟩,s2.symm⟩
  .rw[N.o,N.q,Z4h,Z4h,hl];rw[LB,L3]at hj;by_cases q:j<out.length
   .rw[if_pos q,if_pos q];have:=o.i j q;refine⟨this.1, ?_⟩;rw[s3 _ this.1 (λc=>no (c▸getD_mem_iff.2 ⟨j,q,rfl⟩))];exact this.2
   .have:j=out.length:=by omega
    rw[if_neg q,if_neg q,if_pos this,if_pos this];exact⟨hr,s2⟩
  .rw[s4]at hy;by_cases q:y=r
   .rw[q];simp
   .rw[s3 y hy q]at hy2;exact Lo _ (o.s y hy hy2)
  .rw[s4]at hy;have q:y≠r:=λq=>s1 (s2.symm.trans (q▸hy2));rw[s3 y hy q]at hy2;have u:=o.un y hy hy2;have ey:=(Z1E (by have:=u 0 oq (Z09 _ _).1;simpa using this)).2.1;rw[same y (Lo _ hy) (.inr q) m m0 (by rw[ey];exact m1)];exact u m m0 m1
  .rw[LB,L3]at hj2;rw[Z4h]at m1 ⊢;rw[N.q,Z4h,hl];by_cases q:j<out.length
   .rw[if_pos q]at m1 ⊢;rw[if_pos q];have u:=o.uq j hj q;have hq:w.Q.getD j M∈w.Q:=getD_mem_iff.2 ⟨j,by omega,rfl⟩;have ey:hlA w.heap.W (w.Q.getD j M)=hlA h.W (out.getD j M):=by
     have:=u 0 oq (Z09 _ _).1;simp only[Ls]at this;rw[hlA,hlA,this]
    rw[same _ (Lk _ hq) (.inl hq) m m0 (by rw[ey];exact m1)];exact u m m0 m1
   .have:j=out.length:=by omega
    rw[if_neg q,if_pos this]at m1 ⊢;rw[if_neg q,if_pos this];rw[N.x m m0 m1];exact o.un r hr hs m m0 m1
 .rw[o.b.o.same g mv hr hs,addO,if_pos (.inr (o.s r hr hs))];exact⟨rfl,o,rfl⟩
omit mv in
theorem RO.old{x j:Int}(hx:x∈w.old)(hj:j∈Z01 (hdA h.W x)):(loadA h.W (x+1+j)).1=0\/(loadA h.W (x+1+j)).1∈w.old:=by
 obtain⟨tq,k⟩:=o.b.o.c.k;obtain⟨i0,hx0,hk0⟩:=(k.old x).1 hx;have b:=Z1S _ j hj;refine(g.q i0 x j hx0 hk0 b.1 b.2 (Z3a _ j hj)).imp id λ⟨a,h1,h2⟩=>(k.old _).2 ⟨a,h1,h2⟩
theorem RO.in1{a:Nat}(ha:a<n)(hn:a<out.length){j:Int}(hj:0<=j/\j<hlA h.W (out.getD a M))(hq:hdA w.heap.W (w.Q.getD a M)=hdA h.W (out.getD a M))(hv:(loadA w.heap.W (w.Q.getD a M+1+j)).1=0\/(loadA w.heap.W (w.Q.getD a M+1+j)).1∈w.old) :
  (w.fwd (loadA w.heap.W (w.Q.getD a M+1+j)).1).2.2=0/\RO h T (w.in1 (w.Q.getD a M+1+j)) (addO out (loadA w.heap.W (w.Q.getD a M+1+j)).1) n/\(w.in1 (w.Q.getD a M+1+j)).Q.getD a M=w.Q.getD a M /\
  hdA (w.in1 (w.Q.getD a M+1+j)).heap.W (w.Q.getD a M)=hdA h.W (out.getD a M)/\(∀ m,0<=m->m<hlA h.W (out.getD a M)->m≠j->loadA (w.in1 (w.Q.getD a M+1+j)).heap.W (w.Q.getD a M+1+m)=loadA w.heap.W (w.Q.getD a M+1+m)):=by
 obtain⟨e,f,_⟩:=o.fwd g mv hv;have hqm:w.Q.getD a M∈w.Q:=getD_mem_iff.2 ⟨a,by have:=o.l;omega,rfl⟩;generalize hqe:w.Q.getD a M=q at *;have hl:hlA w.heap.W q=hlA h.W (out.getD a M):=congrArg Header.length hq;have hw:=o.b.o.c.ok;have iv:=o.b.o.c.inv;have S:=o.b.in1 g mv hqm hj.1 (by rw[hl];exact hj.2) e;obtain⟨tq,k⟩:=o.b.o.c.k;obtain⟨i1,x1⟩:=Z3z hw iv _ e;have sm:=Zcw hw iv _ e;have fs:=(Z2Q hw iv _ e).2.2;have hq1:=x1.q q hqm;have hl1:=x1.l q hqm;have hr:=i1.r q (Lk _ hq1);generalize hve:(loadA w.heap.W (q+1+j)).1=v at *;have hin:4096<=q+1+j/\q+1+j<4096+(w.fwd v).1.heap.W.length:=by omega
 have far:∀ x∈(w.fwd v).1.old++(w.fwd v).1.Q,∀ i,0<=i->i<=hlA (w.fwd v).1.heap.W x->x+i=q+1+j->x=q:=by
  intro x hx i y0 b c;have l1:=i1.s q (Lk _ hq1) x hx;have l2:=i1.s x hx q (Lk _ hq1);omega
 have wd:∀ z,z≠q+1+j->loadA (w.in1 (q+1+j)).heap.W z=loadA (w.fwd v).1.heap.W z:=λz hz=>by
  simp only[Work.in1,hve];rw[Z0l hin hz]
 have hh:∀ x∈(w.fwd v).1.old++(w.fwd v).1.Q,loadA (w.in1 (q+1+j)).heap.W x=loadA (w.fwd v).1.heap.W x:=λx hx=>wd x λc=>by
  have:=far x hx 0 oq (Z09 _ _).1 oq;omega
 have eq0:(w.in1 (q+1+j)).Q=(w.fwd v).1.Q:=by simp only[Work.in1,hve]
 have eo0:(w.in1 (q+1+j)).old=(w.fwd v).1.old:=by simp only[Work.in1,hve]
 have se:∀ y∈(w.fwd v).1.old,Z21 (w.in1 (q+1+j)) y=Z21 (w.fwd v).1 y:=λy hy=>by
  unfold Z21;rw[hh y (Lo _ hy),eq0]
 have fl:=f.l;have ln:=o.l;have gq:(w.fwd v).1.Q.getD a M=q:=by rw[sm.get oq];exact hqe
 have ao:a<(addO out v).length:=by
  unfold addO;split
  .exact hn
  .rw[LB];omega
 refine⟨e,⟨S.1,by rw[eq0];exact f.nd,by rw[eq0];exact f.l,λi hi=>?_,λy hy hy2=>?_,λy hy hy2 m m0 m1=>?_,λi hi hi2 m m0 m1=>?_⟩,by rw[eq0];exact gq,(S.2 q hqm).2.trans hq,λm m0 m1 hm=>?_⟩
 .have:=f.i i hi;rw[eo0,eq0,se _ this.1];exact this
 .rw[eo0]at hy;rw[se y hy]at hy2;exact f.s y hy hy2
 .rw[eo0]at hy;rw[se y hy]at hy2;have u:=f.un y hy hy2;have ey:=(Z1E (by have:=u 0 oq (Z09 _ _).1;simpa using this)).2.1;rw[wd (y+m) λc=>?_]
  .exact u m m0 m1
  .have:=far y (Lo _ hy) m m0 (by rw[ey];exact m1) c;subst this;unfold Z21 at hy2;rw[if_pos hq1]at hy2;have:=i1.r y (Lo _ hy);omega
 .rw[eq0];have u:=f.uq i hi hi2;have hm2:(w.fwd v).1.Q.getD i M∈(w.fwd v).1.Q:=getD_mem_iff.2 ⟨i,by omega,rfl⟩;have ey:hlA (w.fwd v).1.heap.W ((w.fwd v).1.Q.getD i M)=hlA h.W ((addO out v).getD i M):=by
   have:=u 0 oq (Z09 _ _).1;simp only[Ls]at this;rw[hlA,hlA,this]
  rw[wd _ λc=>?_]
  .exact u m m0 m1
  .have z:=far _ (Lk _ hm2) m m0 (by rw[ey];exact m1) c;have nd:=f.nd;have:i=a:=by
    have h1:(w.fwd v).1.Q[i]? = Ll q:=by rw[<- z,Le,Lh oq];rfl
    have h2:(w.fwd v).1.Q[a]? = Ll q:=by rw[<- gq,Le,Lh oq];rfl
    exact(List.getElem?_inj oq nd).1 (h1.trans h2.symm)
   omega
 .rw[wd _ oq,show q+1+m=q+(1+m) by omega,fs q (Lk _ hqm) (.inl hqm) (1+m) oq oq]
theorem RO.inn{q x:Int}{l:List Int}(hn:n<out.length)(hq:w.Q.getD n M=q)(hx:out.getD n M=x)(hl:Z01 (hdA h.W x)=l):∀ k,k<=l.length->RO h T (innN w q l k) (addN out (l.map λj=>(loadA h.W (x+1+j)).1) k) (n+1)/\(∀ j,j<k->innE w q l j=0)/\(innN w q l k).Q.getD n M=q/\hdA (innN w q l k).heap.W q=hdA h.W x /\
  (addN out (l.map λj=>(loadA h.W (x+1+j)).1) k).getD n M=x/\n<(addN out (l.map λj=>(loadA h.W (x+1+j)).1) k).length/\∀ m,0<=m->m<hlA h.W x->(∀ i,i<k->l.getD i M≠m)->(loadA (innN w q l k).heap.W (q+1+m)).1=(loadA h.W (x+1+m)).1
 | 0,_=>by
  subst hq;subst hx;have u:=o.uq n (Lg _) hn;refine⟨⟨o.b,o.nd,o.l,o.i,o.s,o.un,λi hi=>o.uq i oq⟩,λj hj=>absurd hj (Lr j),rfl, ?_,rfl,hn,λm m0 m1 _=>?_⟩
  .have:=u 0 oq (Z09 _ _).1;simp only[Ls]at this;show hdA w.heap.W _=_;rw[hdA,hdA,this]
  .have:=u (1+m) oq oq;rw[<- Lw,<- Lw]at this;exact this
 | k+1,hk=>by
  obtain⟨i1,i2,i3,i4,i5,i6,i7⟩:=RO.inn hn hq hx hl k oq;have hj:l.getD k M∈Z01 (hdA h.W x):=by rw[hl];exact getD_mem_iff.2 ⟨k,by omega,rfl⟩
  have jb:=Z1S _ _ hj;have nd:=Z7s (hdA h.W x);rw[hl]at nd;have hne:∀ i,i<k->l.getD i M≠l.getD k M:=λi hi c=>by
   simp only[Le]at c;rw[Lh oq,Lh oq]at c;have:=(List.getElem_inj nd).1 c;omega
  have ev:=i7 (l.getD k M) jb.1 jb.2 hne;have xo:x∈(innN w q l k).old:=by
   have:=(i1.i n i6).1;rw[i5]at this;exact this
  have ov:=i1.old g xo hj;rw[<- ev]at ov;obtain⟨c1,c2,c3,c4,c5⟩:=i1.in1 g mv (a:=n) oq i6 (j:=l.getD k M) (by rw[i5];exact jb) (by rw[i3,i5];exact i4) (by rw[i3];exact ov);rw[i3]at c1 c2 c3 c4 c5;rw[i5]at c4 c5;rw[ev]at c2;have em:(l.map λj=>(loadA h.W (x+1+j)).1).getD k M=(loadA h.W (x+1+l.getD k M)).1:=by
   simp only[Le,LL,Lh (show k<l.length by omega),LR,Lv]
  have e2:addN out (l.map λj=>(loadA h.W (x+1+j)).1) (k+1)=addO (addN out (l.map λj=>(loadA h.W (x+1+j)).1) k) (loadA h.W (x+1+l.getD k M)).1:=by rw[addN,em]
  rw[e2];refine⟨c2,λj hj=>?_,c3,c4, ?_, ?_,λm m0 m1 hm=>?_⟩
  .by_cases c:j=k
   .rw[c];exact c1
   .exact i2 j oq
  .unfold addO;split
   .exact i5
   .rw[Z4h,if_pos i6];exact i5
  .unfold addO;split
   .exact i6
   .rw[LB];omega
  .show(loadA ((innN w q l k).in1 (q+1+l.getD k M)).heap.W (q+1+m)).1=_;rw[c5 m m0 m1 (λc=>hm k oq c.symm)];exact i7 m m0 m1 λi hi=>hm i oq
theorem RO.step(hn:n<out.length)(hs:w.D=n):RO h T (Z0r w).1 (addN out (Z62 h (out.getD n M)) (Z62 h (out.getD n M)).length) (n+1)/\(Z0r w).2.1=La/\(Z0r w).1.D=(n+1:Nat):=by
 have hx:=(o.i n hn).1;obtain⟨tq,k⟩:=o.b.o.c.k;obtain⟨i0,hx0,hk0⟩:=(k.old _).1 hx;have e1:=g.refs hx0 hk0;have eh:hdA w.heap.W (w.Q.getD n M)=hdA h.W (out.getD n M):=by
  have:=o.uq n (Lg _) hn 0 oq (Z09 _ _).1;simp only[Ls]at this;rw[hdA,hdA,this]
 have ha:Z1G w=w.Q.getD n M:=by unfold Z1G;rw[hs,L0]
 have hp:Z0T w=Z01 (hdA h.W (out.getD n M)):=by unfold Z0T hdW;rw[ha];exact congrArg Z01 eh
 obtain⟨i1,i2,_⟩:=o.inn g mv hn rfl rfl rfl _ (Lg _);have hlt:w.D<w.Q.length:=by rw[hs,o.l];omega
 have hb:(Li (Z0T w).length).find? (λk=>Ld (innE w (Z1G w) (Z0T w) k≠0))=Lf:=Lt.2 λj hj=>by
  have hj:=Ln.1 hj;have e:=i2 j (by rw[hp]at hj;exact hj);rw[ha,hp];rw[e];simp
 have e7:Z0r w=(Z7H (innN w (Z1G w) (Z0T w) (Z0T w).length) (Z0T w).length,La,0):=by unfold Z0r;rw[if_pos hlt,hb]
 have sw:=o.b.step g mv;have so:=(Z7Y o.b.o.c.ok sw.1).2 (by rw[e7]);refine⟨?_,by rw[e7],by rw[so,hs];omega⟩;have sw:=sw.2;rw[e7]at sw ⊢;rw[ha,hp]at sw ⊢;rw[e1,Lm];exact⟨sw,i1.nd,i1.l,i1.i,i1.s,i1.un,i1.uq⟩
end
def ZjX{w:Work}(m:(Z0r w).2.1=La):w.D<w.Q.length/\(∀ j,j<(Z0T w).length->innE w (Z1G w) (Z0T w) j=0)/\(Z0r w).1=Z7H (innN w (Z1G w) (Z0T w) (Z0T w).length) (Z0T w).length:=by
 unfold Z0r at m ⊢;split at m
 .rename_i hs;rw[if_pos hs];cases hb:(Li (Z0T w).length).find? (λk=>Ld (innE w (Z1G w) (Z0T w) k≠0))with
  | none =>
   refine⟨hs,λj hj=>?_,rfl⟩;have:=Lt.1 hb j (Ln.2 hj);simpa using this
  | some i=>rw[hb]at m;cases m
 .cases m
def step_end{w:Work}(e:(Z0r w).2.2=0)(m:(Z0r w).2.1=Lc):¬ w.D<w.Q.length/\(Z0r w).1=w:=by
 unfold Z0r at e m ⊢;split at m
 .rename_i hs;rw[if_pos hs]at e;cases hb:(Li (Z0T w).length).find? (λk=>Ld (innE w (Z1G w) (Z0T w) k≠0))with
  | none=>rw[hb]at m;cases m
  | some i =>
   rw[hb]at e;exact absurd e (of_decide_eq_true (Lx.1 hb).1)
 .rename_i hs;rw[if_neg hs];exact⟨hs,rfl⟩
def ZkY{w:Work}{j:Nat}(h:Z2T w j=Lc):(Z0r (itW w j)).2.1=La:=by
 simp only[Z2T,decide_eq_false_iff_not,not_or,LD]at h;simpa using h.2
def ordN(h:Heap)(roots:List Int):Nat->List Int
 | 0=>addN [] roots roots.length
 | i+1=>addN (ordN h roots i) (Z62 h ((ordN h roots i).getD i M)) (Z62 h ((ordN h roots i).getD i M)).length
structure OrdE (h:Heap) (roots:List Int) (k:Nat):Prop where
 r:(Li roots.length).find? (rfsB roots (Z04 h).1)=Lf
 o:∀ i,i<k->i<(ordN h roots i).length/\ULe (Z62 h ((ordN h roots i).getD i M))/\(Li (Z62 h ((ordN h roots i).getD i M)).length).find? (rfsB (Z62 h ((ordN h roots i).getD i M)) (Z04 h).1)=Lf
 e:(ordN h roots k).length<=k
 u:∀ i,i<=k->(ordN h roots i).length<=1048576/\ULe (ordN h roots i)
section
variable {h:Heap} {T:Nat->List Int} (g:Gd h T) (mv:MV h) {s:List Int} (hs:∀ r∈s,r=0\/Ob h T r)
include g mv hs
theorem SW.rootsN(hw:WOk h.W):∀ k,k<=s.length->(∀ j,j<k->Z1W (beginW h) s j=0)/\SW h T (Go.Proofs.YtgedmeaemofdkaaGreat.rootsN (beginW h) s k).1/\∀ i,i<k->ToOk (Go.Proofs.YtgedmeaemofdkaaGreat.rootsN (beginW h) s k).1 ((Go.Proofs.YtgedmeaemofdkaaGreat.rootsN (beginW h) s k).2.getD i M)/\((Go.Proofs.YtgedmeaemofdkaaGreat.rootsN (beginW h) s k).2.getD i M=0↔s.getD i M=0)
 | 0,_=>⟨λj hj=>absurd hj (Lr j),SW.begin g hw,λi hi=>absurd hi (Lr i)⟩
 | k+1,hk=>by
  obtain⟨i1,i2,i3⟩:=SW.rootsN hw k oq;have hr:=hs _ (getD_mem_iff.2 ⟨k,by omega,rfl⟩);obtain⟨tq,ki⟩:=i2.o.c.k;have hr':s.getD k M=0\/s.getD k M∈(Go.Proofs.YtgedmeaemofdkaaGreat.rootsN (beginW h) s k).1.Q\/s.getD k M∈(Go.Proofs.YtgedmeaemofdkaaGreat.rootsN (beginW h) s k).1.old:=hr.imp id λq=>.inr ((ki.old _).2 q);obtain⟨e,f1,f2⟩:=i2.fwd g mv hr';have sm:=Zcw i2.o.c.ok i2.o.c.inv _ e;have hn:=Z2F (beginW h) s k;refine⟨λj hj=>?_,f1,λi hi=>?_⟩
  .by_cases q:j=k
   .rw[q];exact e
   .exact i1 j oq
  .simp only[Go.Proofs.YtgedmeaemofdkaaGreat.rootsN,Le];by_cases q:i=k
   .subst q;rw[L1 oq,hn];simp only[Xi,List.getElem?_cons_zero,Lv];simp only[Le]at hr hr' f2;refine⟨f2,λc=>?_,λc=>?_⟩
    .rcases hr with q | q
     .exact q
     .have:=(i2.o.seen g mv ((ki.old _).2 q)).1;exact absurd c this
    .rw[c,Work.fwd,if_pos (.inl rfl)]
   .rw[LI oq];have:=i3 i oq;simp only[Le]at this;exact⟨sm.to this.1,this.2⟩
theorem SW.roots(hw:WOk h.W):rootsF (beginW h) s=((Go.Proofs.YtgedmeaemofdkaaGreat.rootsN (beginW h) s s.length).1,(Go.Proofs.YtgedmeaemofdkaaGreat.rootsN (beginW h) s s.length).2,0)/\SW h T (rootsF (beginW h) s).1:=by
 obtain⟨i1,i2,i3⟩:=SW.rootsN g mv hs hw s.length (Lg _);have e:rootsF (beginW h) s=((Go.Proofs.YtgedmeaemofdkaaGreat.rootsN (beginW h) s s.length).1,(Go.Proofs.YtgedmeaemofdkaaGreat.rootsN (beginW h) s s.length).2,0):=by
  unfold rootsF;rw[Lt.2 λj hj=>by simp[i1 j (Ln.1 hj)]]
 rw[e];exact⟨rfl,i2⟩
end
def Zgj{refs all:List Int}(h:∀ r∈refs,r=0\/r∈all):(Li refs.length).find? (rfsB refs all)=Lf :=
 Lt.2 λj hj=>by
  have:=h _ (getD_mem_iff.2 ⟨j,Ln.1 hj,rfl⟩);unfold rfsB;simp only[decide_eq_true_eq,not_and,LD];exact λc=>this.resolve_left c
section
variable {h:Heap} {T:Nat->List Int} (g:Gd h T) (mv:MV h) {s:List Int} (hs:∀ r∈s,r=0\/Ob h T r) (hw:WOk h.W)
include g mv hs hw
theorem RO.roots:∀ k,k<=s.length->RO h T (rootsN (beginW h) s k).1 (addN [] s k) 0/\(rootsN (beginW h) s k).1.D=0
 | 0,_=>⟨RO.begin g hw,rfl⟩
 | k+1,hk=>by
  obtain⟨i1,i2⟩:=RO.roots k oq;obtain⟨tq,ki⟩:=i1.b.o.c.k;have hr:=(hs _ (getD_mem_iff.2 ⟨k,by omega,rfl⟩)).imp id λq=>(ki.old _).2 q;have f:=i1.fwd g mv hr;exact⟨f.2.1,(Z2Q i1.b.o.c.ok i1.b.o.c.inv _ f.1).2.1.trans i2⟩
theorem RO.it:∀ k,(∀ j,j<k->j<(ordN h s j).length)->RO h T (itW (rootsF (beginW h) s).1 k) (ordN h s k) k/\(itW (rootsF (beginW h) s).1 k).D=k
 | 0,_=>by
  obtain⟨i1,i2⟩:=RO.roots g mv hs hw s.length (Lg _);obtain⟨e,_⟩:=SW.roots g mv hs hw;rw[e];exact⟨i1,i2⟩
 | k+1,hk=>by
  obtain⟨i1,i2⟩:=RO.it k (λj hj=>hk j oq);obtain⟨j1,_,j3⟩:=i1.step g mv (hk k oq) i2;exact⟨j1,j3⟩
theorem Zla:∃ k,OrdE h s k/\RO h T (cW2 h s) (ordN h s k) k/\(cW2 h s).D=k/\(ordN h s k).length=k/\cW2 h s=itW (rootsF (beginW h) s).1 k:=by
 obtain⟨e,sw⟩:=SW.roots g mv hs hw;obtain⟨k,hk⟩:=Z3A sw.o.c.ok;obtain⟨h1,h2,h3⟩:=Lx.1 hk;have ek:=λj=>((sw.it g mv j).step g mv).1;have key:∀ j,j<=k->∀ i,i<j->i<(ordN h s i).length:=by
  intro j;induction j with
  | zero=>intro _ i hi;omega
  | succ j ih =>
   intro hj i hi;by_cases q:i=j
   .subst q;obtain⟨i1,i2⟩:=RO.it g mv hs hw i (ih oq);have m:Z2T (rootsF (beginW h) s).1 i=Lc:=by simpa using h3 i oq
    have:=(ZjX (ZkY m)).1;rw[i2,i1.l]at this;omega
   .exact ih oq i oq
 obtain⟨i1,i2⟩:=RO.it g mv hs hw k (key k (Lg _));have m:(Z0r (itW (rootsF (beginW h) s).1 k)).2.1=Lc:=by
  simp only[Z2T,decide_eq_true_eq,ek k]at h1;simpa using h1
 obtain⟨n1,n2⟩:=step_end (ek k) m;have e7:cW2 h s=itW (rootsF (beginW h) s).1 k:=by rw[cW2,allF,hk];simp only[if_pos (ek k)];exact n2
 have sc:=i1.b.o.c.ok.sc;have il:=i1.l;rw[i2,i1.l]at n1;rw[i2,i1.l]at sc;have all:∀ {i:Nat},i<=k->∀ x∈(itW (rootsF (beginW h) s).1 i).old,x∈(Z04 h).1:=λ{i} hi x hx=>by
  obtain⟨tq,ki⟩:=(sw.it g mv i).o.c.k;exact((KI.begin g).old x).2 ((ki.old x).1 hx)
 refine⟨k,⟨Zgj λr hr=>(hs r hr).imp id λq=>((KI.begin g).old r).2 q,λi hi=>(λq=>⟨key k (Lg _) i hi,λr hr=>(q r hr).elim (λc=>by omega) (λc=>by have:=Z1f h r c;omega),Zgj q⟩) λr hr=>?_,by omega,λi hi=>?_⟩,by rw[e7];exact i1,by rw[e7];exact i2,by omega,e7⟩
 .obtain⟨j1,j2⟩:=RO.it g mv hs hw i (λj hj=>key k (Lg _) j oq);have xo:=(j1.i i (key k (Lg _) i hi)).1;obtain⟨tq,ki⟩:=j1.b.o.c.k;obtain⟨i0,hx0,hk0⟩:=(ki.old _).1 xo;rw[g.refs hx0 hk0]at hr;obtain⟨j,hj,rfl⟩:=LC.1 hr;exact(j1.old g xo hj).imp id (all oq _)
 .obtain⟨j1,j2⟩:=RO.it g mv hs hw i (λj hj=>key k (Lg _) j oq);have ln:=j1.b.o.c.ck.ln;refine⟨by rw[<- j1.l];exact ln.ql,λx hx=>?_⟩;obtain⟨j,hj,rfl⟩:=getD_mem_iff.1 hx;have:=Z1f h _ (all hi _ (j1.i j hj).1);omega
end
def seaP(all l:List Int):List Blk:=[.box 105 [Z02 all,.pt 1 0 99999,.ow 2],.mp l,.arr 35 1 (l.map wdv)]
def seaQ(all l:List Int):List Blk:=[.box 105 [Z02 all,.pt 1 0 99999,.ow 3],.mp l,.dead,.arr 35 1 (l.map wdv)]
section
variable (all l:List Int) (r:Int) (h0:0<=r/\r<=18446744073709551615) (hl:l.length<=1048576) (ha:all.length<=1048576) (hs:all.Pairwise (· < ·))
include h0 hl ha hs
theorem Zmj(h:r≠0)(hr:r∉all):BP 108 [.pt 0 0 0,u64 r] (seaP all l) (bool Lc) (seaP all l):=by
 exact borF [0,1,2] [] func108 [] (Ffb 10 (r==0) (Fc 17 (@bsearch all r aa aa) (Ftb 21 (!decide (r∈all)) Fz)))
theorem ZoL(h:r=0\/r∈all)(hr:r=0\/r∈l):BP 108 [.pt 0 0 0,u64 r] (seaP all l) (bool La) (seaP all l):=by
 by_cases c:r=0
 .exact borF [0,1,2] [] func108 [] (Ftb 10 (r==0) Fz)
 .have h:=h.resolve_left c;have hr:=hr.resolve_left c;exact borF [0,1,2] [] func108 [] (Ffb 10 (r==0) (Fc 17 (@bsearch all r aa aa) (Ffb 21 (!decide (r∈all)) (Ff 32 (by simp[mpC, *]:(!mpC l r)=Lc) Fz))))
theorem Zot(h:r≠0)(hr:r∈all)(hn:r∉l):BP 108 [.pt 0 0 0,u64 r] (seaP all l) (bool La) [.box 105 [Z02 all,.pt 1 0 99999,.ow 3],.mp (l++[r]),.dead,.arr 35 1 ((l++[r]).map wdv)]:=by
 exact borF [0,1,8002] [72050] func108 [] (Fh 50 [.els (Lb wdv (l++[r]))] (Ffb 10 (r==0) (Fc 17 (@bsearch all r aa aa) (Ffb 21 (!decide (r∈all)) (Ft 32 (by simp[mpC, *]:(!mpC l r)=La) (Fl 42 wdv l (Fa (by intro hg;(try simp only[bs]at hg);grind[mpC]:r∈l->False) (Fr (l.length:Int) (Fo (l.length<2^30) (Fs 49 (Lb wdv [r]) (Fa (by(simp[mpC, *];omega):(Lb wdv l).length+(Lb wdv [r]).length<=2^30) (Fa (by simp[mpC,LH,LF,LG,Ly,wdv,idv]:Lb wdv l++Lb wdv [r]=Lb wdv (l++[r])) Fz))))))))))))
theorem Zop(h:r=0\/r∈all):BP 108 [.pt 0 0 0,u64 r] (seaP all l) (bool La) (seaQ all (addO l r)):=by
 by_cases c:r=0\/r∈l
 .rw[addO,if_pos c];exact Zl6 [0,1,3] 4 (ZoL all l r h0 hl ha hs h c) (by rfl) rfl rfl
 .rw[addO,if_neg c];exact Zot all l r h0 hl ha hs (λq=>c (.inl q)) (h.resolve_left λq=>c (.inl q)) (λq=>c (.inr q))
end
def Zcq(hd:Header)(fs:List Int)(f:Int->Int):∀ n:Nat,(∀ k:Nat,k<n->fs.getD k M=f k)->Z8N hd fs n=(Z0G hd n).map f
 | 0,_=>rfl
 | n+1,h=>by
  unfold Z8N Z0G;rw[Zcq hd fs f n (λk hk=>h k oq),h n oq];split
  .simp
  .rfl
def Z72{h:Heap}(hp:Z03 h=La){a:Int}(ha:a∈(Z04 h).1):(getH h a).2=0/\(atH h a).2=0/\(atH h a).1.K≠0:=by
 obtain⟨h1,h2⟩:=List.mem_filter.1 ha;have h2:(atH h a).1.K≠0:=by simpa[Z3i]using h2
 rw[ZaK]at h1;obtain⟨x,hx,rfl⟩:=LC.1 h1;have h3:=(Zj7 x hx).2;refine⟨?_,h3,h2⟩;unfold getH;have z:x.addr≠0:=λe=>Zb8 h (by have:=h3;rw[e]at this;exact this);rw[if_pos hp,if_neg z,if_neg (λe=>h2 e.2)];exact h3
def Z0q(h:Heap)(a:Int):List Int:=(Z01 (atH h a).1).map λj=>(loadA h.W (a+1+j)).1
def Zmb{h:Heap}{a:Int}(hp:Z03 h=La)(ha:a∈(Z04 h).1):Z62 h a=Z0q h a:=by
 have g:=(Z72 hp ha).1;obtain⟨e,e1,_,_,k1,k2,v,_,_,l1,l2⟩:=Z3B g;have r:=ZeX e1;rw[<- e]at r;have fl:(Z0S h a)=Z18 h.W (a+1) (getH h a).1.length:=by rw[Z0S,if_pos g]
 have rd:Z18 h.W (a+1) (getH h a).1.length=((h.W.drop (a+1-4096).toNat).take (getH h a).1.length.toNat,0):=by
  rw[Z18,if_neg oq,if_pos oq]
 unfold Z62 Z0q;rw[fl,rd];have ln:((h.W.drop (a+1-4096).toNat).take (getH h a).1.length.toNat).length=(getH h a).1.length.toNat:=by
  rw[Lp,Xd];omega
 rw[Zcq _ _ (λj=>(loadA h.W (a+1+j)).1) _ (λk hk=>?_),ln]
 .unfold Z01;rw[<- e,if_pos v]
 .rw[ln]at hk;show((h.W.drop (a+1-4096).toNat).take (getH h a).1.length.toNat).getD k M=_;rw[loadA,if_pos oq];simp only[Le,LM,L2];rw[if_pos oq,show(a+1-4096).toNat+k=(a+1+(k:Int)-4096).toNat by omega];rfl
def ZoN{l:List Int}{a:Int}(h:l.Nodup)(ha:a∉l):(l++[a]).Nodup:=by
 rw[LW];refine⟨h,by simp,λb hb c hc=>?_⟩;rw[Lq]at hc;rintro rfl;exact ha (hc▸hb)
def Znz{all out:List Int}{r:Int}(h:out.Nodup/\∀ x∈out,x∈all)(hr:r=0\/r∈all):(addO out r).Nodup/\∀ x∈addO out r,x∈all:=by
 unfold addO;split
 .exact h
 .rename_i c;refine⟨ZoN h.1 (λq=>c (.inr q)),λx hx=>?_⟩;rcases Lu.1 hx with hx | hx
  .exact h.2 x hx
  .rw[Lq.1 hx];exact hr.resolve_left λq=>c (.inl q)
def ZdV{refs all:List Int}{i:Nat}(h:rfsB refs all i=Lc):refs.getD i M=0\/refs.getD i M∈all:=by
 have:=of_decide_eq_false h;by_cases c:refs.getD i M=0
 .exact .inl c
 .exact .inr (LD.1 λq=>this ⟨c,q⟩)
def Z7c{all out refs:List Int}(h:out.Nodup/\∀ x∈out,x∈all):∀ n,(∀ j,j<n->rfsB refs all j=Lc)->(addN out refs n).Nodup/\∀ x∈addN out refs n,x∈all
 | 0,_=>h
 | n+1,hb=>Znz (Z7c h n λj hj=>hb j oq) (ZdV (hb n oq))
def ZaR{refs all:List Int}(h:(Li refs.length).find? (rfsB refs all)=Lf):∀ j,j<refs.length->rfsB refs all j=Lc:=λj hj=>by
 simpa using Lt.1 h j (Ln.2 hj)
def Zdx:∀ {l m:List Int},l.Nodup->(∀ x∈l,x∈m)->l.length<=m.length
 | [],_,_,_=>L6 _
 | a::l,m,hn,h=>by
  obtain⟨h1,h2⟩:=List.nodup_cons.1 hn;have ha:=h a pq;have:=Zdx (l:=l) (m:=m.erase a) h2 (λx hx=>(List.mem_erase_of_ne (by rintro rfl;exact h1 hx)).2 (h x (by simp[hx])));have e:=List.length_erase_of_mem ha;have:=List.length_pos_of_mem ha;simp only[List.length_cons];omega
def ordG(h:Heap)(roots:List Int):Nat->List Int
 | 0=>addN [] roots roots.length
 | i+1=>addN (ordG h roots i) (Z0q h ((ordG h roots i).getD i M)) (Z0q h ((ordG h roots i).getD i M)).length
def badG(h:Heap)(roots:List Int)(i:Nat):Bool:=((Li (Z0q h ((ordG h roots i).getD i M)).length).find? (rfsB (Z0q h ((ordG h roots i).getD i M)) (Z04 h).1)).isSome
def ordT(h:Heap)(roots:List Int):Nat->Nat->Nat
 | 0,i=>i
 | f+1,i=>if(ordG h roots i).length<=i\/badG h roots i=La then i else ordT h roots f (i+1)
def ordZ(h:Heap)(roots:List Int):Nat:=ordT h roots 16385 0
def Z3P(h:Heap)(roots:List Int):Bool:=((Li roots.length).find? (rfsB roots (Z04 h).1)).isSome
structure OrdI (h:Heap) (roots:List Int) (k:Nat):Prop where
 lo:∀ i,i<k->i<(ordG h roots i).length/\badG h roots i=Lc
 el:∀ i,i<=k->(ordG h roots i).Nodup/\∀ x∈ordG h roots i,x∈(Z04 h).1
def OrdI.len{h:Heap}{roots:List Int}{k:Nat}(I:OrdI h roots k){i:Nat}(hi:i<=k):(ordG h roots i).length<=16384 :=
 LY (Zdx (I.el i hi).1 (I.el i hi).2) (Z19 h)
def OrdI.zero{h:Heap}{roots:List Int}(hr:Z3P h roots=Lc):OrdI h roots 0:=by
 refine⟨λi hi=>by omega,λi hi=>?_⟩;obtain rfl:i=0:=by omega
 exact Z7c ⟨Lz,by simp⟩ _ (ZaR (by simpa[Z3P]using hr))
def OrdI.succ{h:Heap}{roots:List Int}{k:Nat}(I:OrdI h roots k)(h1:k<(ordG h roots k).length)(h2:badG h roots k=Lc):OrdI h roots (k+1):=by
 refine⟨λi hi=>?_,λi hi=>?_⟩
 .by_cases q:i=k
  .rw[q];exact⟨h1,h2⟩
  .exact I.lo i oq
 .by_cases q:i=k+1
  .rw[q];exact Z7c (I.el k (Lg _)) _ (ZaR (by simpa[badG]using h2))
  .exact I.el i oq
def Zfx{h:Heap}{roots:List Int}:∀ f i,OrdI h roots i->16385<=f+i->OrdI h roots (ordT h roots f i)/\((ordG h roots (ordT h roots f i)).length<=ordT h roots f i\/badG h roots (ordT h roots f i)=La)
 | 0,i,I,hf=>by
  have:=I.len (Lg i);exact⟨I,.inl (by unfold ordT;omega)⟩
 | f+1,i,I,hf=>by
  unfold ordT;by_cases q:(ordG h roots i).length<=i\/badG h roots i=La
  .rw[if_pos q];exact⟨I,q⟩
  .rw[if_neg q];exact Zfx f (i+1) (I.succ oq (by simpa using λe=>q (.inr e))) oq
def ZfS{h:Heap}{roots:List Int}(hr:Z3P h roots=Lc):OrdI h roots (ordZ h roots)/\((ordG h roots (ordZ h roots)).length<=ordZ h roots\/badG h roots (ordZ h roots)=La) :=
 Zfx _ _ (OrdI.zero hr) oq
def Z0v(h:Heap)(roots:List Int):List Int×Int :=
 if Z03 h=La then
  if(Z04 h).2=0 then
   if Z3P h roots=La\/((ordZ h roots)<(ordG h roots (ordZ h roots)).length/\badG h roots (ordZ h roots)=La)then([],19)else(ordG h roots (ordZ h roots),0)
  else([],(Z04 h).2)
 else([],1)
def Zje(h:Heap)(roots:List Int)(hw:WOk h.W)(hp:Z03 h=Lc):BP 55 [h.av,Z02 roots] [] (.tu [.d (.sc (.pointer Lf)),int 1]) []:=by
 exact borF [] [] func55 [] (Fc 19 (@Z0L h) (Ftb 20 (!Z03 h) Fz))
def ZjD(h:Heap)(roots:List Int)(hw:WOk h.W)(hp:Z03 h=La)(ho:(Z04 h).2≠0):BP 55 [h.av,Z02 roots] [] (.tu [.d (.sc (.pointer Lf)),int (Z04 h).2]) []:=by
 exact borF [] [] func55 [] (Fc 19 (@Z0L h) (Ffb 20 (!Z03 h) (Fc 23 (@Z4j h aa) (Ftb 27 ((Z04 h).2 != 0) Fz))))
def hpB(h:Heap):Blk:=.box 28 [int h.C.pw,int h.C.pg,.d (.sl 1 (h.W.map wdv)),.d (.sl 4 (h.P.map Page.dv)),int h.S,int h.B]
def seaB(all l:List Int):List (Nat×Blk):=[(48032,.box 105 [Z02 all,.pt 48030 0 99999,.ow 48031]),(48031,.arr 35 1 (l.map wdv)),(48030,.mp l)]
def srL(h:Heap)(roots:List Int)(i:Nat):Tg:=⟨tm 102 [(2,.pt 16002 0 0),(4,.d (.sc (.pointer Lf))),(5,int 0),(8,.pt 48032 0 0),(33,Z02 roots),(34,int roots.length),(35,int i)],seaB (Z04 h).1 (addN [] roots i)++[(16002,hpB h)],8⟩
section
variable (h:Heap) (roots:List Int) (hl:roots.length<=1000) (hr:ULe roots)
include hl hr
theorem ZiM(i:Nat)(hi:i<roots.length)(hb:∀ j,j<i+1->rfsB roots (Z04 h).1 j=Lc):CP (rndF f55 0) (srL h roots i).st .nrm (srL h roots (i+1)).st:=by
 have ol:=Z19 h;have os:=Z4v h;have o1:=Z7c (all:=(Z04 h).1) (out:=[]) (refs:=roots) ⟨Lz,by simp⟩ i (λj hj=>hb j oq);have o2:=LY (Zdx o1.1 o1.2) ol;have r:=hr _ (getD_mem_iff.2 ⟨i,hi,rfl⟩);have rb:=ZdV (hb i oq);have e7:addN [] roots (i+1)=addO (addN [] roots i) (roots.getD i M):=rfl;unfold srL seaB hpB;rw[e7];exact sF [(81041,48031)] [] (Ftb 36 (Ld ((i:Int)<(roots.length:Int))) (Fek 37 wdv roots (↑i) i (Fbr 41 [48032,48030,48031] (@Zop ((Z04 h).1) (addN [] roots i) (roots.getD i M) aa oq oq aa aa) (Fx 43 i Fz))))
theorem Zpm(i:Nat)(hi:i<roots.length)(hb:∀ j,j<i->rfsB roots (Z04 h).1 j=Lc)(hx:rfsB roots (Z04 h).1 i=La):CP (rndF f55 0) (srL h roots i).st .ret (Tg.st ⟨tm 102 [(4,.d (.sc (.pointer Lf))),(5,int 19)],[],60⟩):=by
 have ol:=Z19 h;have os:=Z4v h;have o1:=Z7c (all:=(Z04 h).1) (out:=[]) (refs:=roots) ⟨Lz,by simp⟩ i hb;have o2:=LY (Zdx o1.1 o1.2) ol;have r:=hr _ (getD_mem_iff.2 ⟨i,hi,rfl⟩);obtain⟨b1,b2⟩:=of_decide_eq_true hx;unfold srL seaB hpB;exact sF [] [] (Ftb 36 (Ld ((i:Int)<(roots.length:Int))) (Fek 37 wdv roots (↑i) i (Fbq 41 [48032,48030,48031] (@Zmj ((Z04 h).1) (addN [] roots i) (roots.getD i M) aa oq oq aa aa aa) Fz)))
omit hl hr in
theorem ZpB:CP (rndF f55 0) (srL h roots roots.length).st (.ext 0) (Tg.st ⟨tm 102 [(2,.pt 16002 0 0),(4,.d (.sc (.pointer Lf))),(5,int 0),(8,.pt 48032 0 0)],seaB (Z04 h).1 (ordG h roots 0)++[(16002,hpB h)],8⟩):=by
 unfold srL seaB hpB ordG;exact sF [] [] (Ffb 36 (Ld ((roots.length:Int)<(roots.length:Int))) Fz)
theorem Zmi(hb:Z3P h roots=Lc):CP (blkF f55 0) (Tg.st ⟨tm 102 [(2,.pt 16002 0 0),(4,.d (.sc (.pointer Lf))),(5,int 0),(8,.pt 48032 0 0),(33,Z02 roots),(34,int roots.length),(35,int 0)],[(48032,.box 105 [Z02 (Z04 h).1,.pt 48030 0 99999,.ow 48031]),(48031,.arr 35 1 []),(48030,.mp []),(16002,.box 28 [int h.C.pw,int h.C.pg,.d (.sl 1 (h.W.map wdv)),.d (.sl 4 (h.P.map Page.dv)),int h.S,int h.B])],8⟩) .nrm (Tg.st ⟨tm 102 [(2,.pt 16002 0 0),(4,.d (.sc (.pointer Lf))),(5,int 0),(8,.pt 48032 0 0)],seaB (Z04 h).1 (ordG h roots 0)++[(16002,hpB h)],8⟩):=by
 have e:=ZaR (refs:=roots) (all:=(Z04 h).1) (by simpa[Z3P]using hb);exact Z0b (S:=λk=>(srL h roots k).st) roots.length kr (λk hk=>ZiM h roots hl hr k hk (λj hj=>e j oq)) (ZpB h roots)
theorem Zn4(hb:Z3P h roots=La):CP (blkF f55 0) (Tg.st ⟨tm 102 [(2,.pt 16002 0 0),(4,.d (.sc (.pointer Lf))),(5,int 0),(8,.pt 48032 0 0),(33,Z02 roots),(34,int roots.length),(35,int 0)],[(48032,.box 105 [Z02 (Z04 h).1,.pt 48030 0 99999,.ow 48031]),(48031,.arr 35 1 []),(48030,.mp []),(16002,.box 28 [int h.C.pw,int h.C.pg,.d (.sl 1 (h.W.map wdv)),.d (.sl 4 (h.P.map Page.dv)),int h.S,int h.B])],8⟩) .ret (Tg.st ⟨tm 102 [(4,.d (.sc (.pointer Lf))),(5,int 19)],[],60⟩):=by
 obtain⟨i,hb⟩:=LQ.1 hb;obtain⟨h1,h2,h3⟩:=Lx.1 hb;have h2:=Ln.1 h2;have e:∀ j,j<i->rfsB roots (Z04 h).1 j=Lc:=λj hj=>by simpa using h3 j hj
 exact Z0y (S:=λk=>(srL h roots k).st) i kr (λk hk=>ZiM h roots hl hr k oq (λj hj=>e j oq)) (Zpm h roots hl hr i h2 e h1)
end
def ZjJ(h:Heap)(roots:List Int)(hw:WOk h.W)(hp:Z03 h=La)(ho:(Z04 h).2=0)(hl:roots.length<=1000)(hr:ULe roots)(hb:Z3P h roots=La):BP 55 [h.av,Z02 roots] [] (.tu [.d (.sc (.pointer Lf)),int 19]) []:=by
 exact borF [] [] func55 [] (Fh 31 [.gh 35 1,.int 2] (Fc 19 (@Z0L h) (Ffb 20 (!Z03 h) (Fc 23 (@Z4j h aa) (Ffb 27 ((Z04 h).2 != 0) (Fl 34 wdv roots (Fu (@Zn4 h roots aa aa aa) Fz)))))))
def Zfv(out:List Int)(r:Int){k:Nat}(hk:k<out.length):k<(addO out r).length/\(addO out r).getD k M=out.getD k M:=by
 unfold addO;split
 .exact⟨hk,rfl⟩
 .refine⟨by simp;omega, ?_⟩;simp only[Le];rw[LI hk]
def Zbx(out refs:List Int){k:Nat}(hk:k<out.length):∀ n,k<(addN out refs n).length/\(addN out refs n).getD k M=out.getD k M
 | 0=>⟨hk,rfl⟩
 | n+1=>by
  obtain⟨h1,h2⟩:=Zbx out refs hk n;obtain⟨h3,h4⟩:=Zfv (addN out refs n) (refs.getD n M) h1;exact⟨h3,h4.trans h2⟩
def siL(h:Heap)(l:List Int)(i:Nat)(ps rf:List Int)(j:Nat):Tg:=⟨tm 102 [(2,.pt 16002 0 0),(4,.d (.sc (.pointer Lf))),(5,int 0),(8,.pt 48032 0 0),(11,int i),(69,.d (.sl 1 (ps.map idv))),(70,int ps.length),(71,int j)],seaB (Z04 h).1 (addN l rf j)++[(16002,hpB h)],13⟩
def ZeW{h:Heap}{l:List Int}{i j:Nat}{a:Int}(hp:Z03 h=La)(hi:i<l.length)(el:l.Nodup/\∀ x∈l,x∈(Z04 h).1)(ea:l.getD i M=a)(hj:j<(Z01 (atH h a).1).length)(hb:∀ m,m<j->rfsB (Z0q h a) (Z04 h).1 m=Lc) :
  i<(addN l (Z0q h a) j).length/\(addN l (Z0q h a) j).length<=16384/\0<=(addN l (Z0q h a) j).getD i M/\(addN l (Z0q h a) j).getD i M<=8192/\0<=(Z01 (atH h a).1).getD j M/\(Z01 (atH h a).1).getD j M<=255 /\
  (loadA h.W ((addN l (Z0q h a) j).getD i M+1+(Z01 (atH h a).1).getD j M)).2=0/\(Z0q h a).getD j M=(loadA h.W ((addN l (Z0q h a) j).getD i M+1+(Z01 (atH h a).1).getD j M)).1:=by
 obtain⟨q1,q2⟩:=Zbx l (Z0q h a) hi j;rw[ea]at q2;have o1:=Z7c (all:=(Z04 h).1) el j hb;have o2:=LY (Zdx o1.1 o1.2) (Z19 h);have am:a∈(Z04 h).1:=ea▸el.2 _ (getD_mem_iff.2 ⟨i,hi,rfl⟩);have ar:=Z1f h a am;obtain⟨g1,g2,g3⟩:=Z72 hp am;have r:=ZeX g2;have pm:=getD_mem_iff.2 ⟨j,hj,rfl⟩;have pr:=(Z1P (atH h a).1).2 _ pm;have pl:(Z01 (atH h a).1).getD j M<(atH h a).1.length:=by
  have hx:=pm;generalize (Z01 (atH h a).1).getD j M=x at hx;unfold Z01 at hx;split at hx
  .have:=Z1V _ _ _ hx;omega
  .simp at hx
 rw[q2];refine⟨q1,o2,by omega,by omega,pr.1,pr.2,by rw[loadA,if_pos oq], ?_⟩;unfold Z0q;simp only[Le,LL,Lh hj,LR,Lv]
section
variable (h:Heap) (l:List Int) (i j:Nat) (a:Int) (hw:WOk h.W) (hp:Z03 h=La) (hi:i<l.length) (el:l.Nodup/\∀ x∈l,x∈(Z04 h).1) (ea:l.getD i M=a)
include hw hp hi el ea
theorem ZhZ(hj:j<(Z01 (atH h a).1).length)(hb:∀ m,m<j+1->rfsB (Z0q h a) (Z04 h).1 m=Lc):CP (rndF f55 4) (siL h l i (Z01 (atH h a).1) (Z0q h a) j).st .nrm (siL h l i (Z01 (atH h a).1) (Z0q h a) (j+1)).st:=by
 have ol:=Z19 h;have os:=Z4v h;have po:=Z07 hp;have pl:=(Z1P (atH h a).1).1;obtain⟨f1,f2,f3,f4,f5,f6,f7,f8⟩:=ZeW hp hi el ea hj (λm hm=>hb m oq);have rb:=ZdV (hb j oq);have rr:=Z0J hw ((addN l (Z0q h a) j).getD i M+1+(Z01 (atH h a).1).getD j M);rw[f8]at rb;have e7:addN l (Z0q h a) (j+1)=addO (addN l (Z0q h a) j) (loadA h.W ((addN l (Z0q h a) j).getD i M+1+(Z01 (atH h a).1).getD j M)).1:=by rw[<- f8];rfl
 unfold siL seaB hpB;rw[e7];let y0:=(addN l (Z0q h a) j).getD i M+1+(Z01 (atH h a).1).getD j M;exact sF [(129097,48031)] [] (Fh 93 [.br Lc] (Ftb 72 (Ld ((j:Int)<(↑(Z01 (atH h a).1).length:Int))) (Fek 73 idv (Z01 (atH h a).1) (↑j) j (Fm 84 wdv (addN l (Z0q h a) j) (↑i) i (Fv 85 ((addN l (Z0q h a) j).getD i M+1) (Fv 87 ((Z01 (atH h a).1).getD j M) (Fv 88 y0 (Fc 89 (@Z8c h.W y0 oq oq) (Fb (((loadA h.W y0).2 != 0)=Lc) (Fbr 97 [48032,48030,48031] (@Zop ((Z04 h).1) (addN l (Z0q h a) j) ((loadA h.W y0).1) aa oq oq aa aa) (Fx 100 j Fz)))))))))))
theorem Zpu(hj:j<(Z01 (atH h a).1).length)(hb:∀ m,m<j->rfsB (Z0q h a) (Z04 h).1 m=Lc)(hx:rfsB (Z0q h a) (Z04 h).1 j=La):CP (rndF f55 4) (siL h l i (Z01 (atH h a).1) (Z0q h a) j).st .ret (Tg.st ⟨tm 102 [(4,.d (.sc (.pointer Lf))),(5,int 19)],[],60⟩):=by
 have ol:=Z19 h;have os:=Z4v h;have po:=Z07 hp;have pl:=(Z1P (atH h a).1).1;obtain⟨f1,f2,f3,f4,f5,f6,f7,f8⟩:=ZeW hp hi el ea hj hb;obtain⟨b1,b2⟩:=of_decide_eq_true hx;have rr:=Z0J hw ((addN l (Z0q h a) j).getD i M+1+(Z01 (atH h a).1).getD j M);rw[f8]at b1 b2;unfold siL seaB hpB;let y0:=(addN l (Z0q h a) j).getD i M+1+(Z01 (atH h a).1).getD j M;exact sF [] [] (Fh 93 [.br Lc] (Ftb 72 (Ld ((j:Int)<(↑(Z01 (atH h a).1).length:Int))) (Fek 73 idv (Z01 (atH h a).1) (↑j) j (Fm 84 wdv (addN l (Z0q h a) j) (↑i) i (Fv 85 ((addN l (Z0q h a) j).getD i M+1) (Fv 87 ((Z01 (atH h a).1).getD j M) (Fv 88 y0 (Fc 89 (@Z8c h.W y0 oq oq) (Fb (((loadA h.W y0).2 != 0)=Lc) (Fbq 97 [48032,48030,48031] (@Zmj ((Z04 h).1) (addN l (Z0q h a) j) ((loadA h.W y0).1) aa oq oq aa aa aa) Fz))))))))))
omit hw hp hi el ea in
theorem Zpw(ps rf:List Int):CP (rndF f55 4) (siL h l i ps rf ps.length).st (.ext 4) (Tg.st ⟨tm 102 [(2,.pt 16002 0 0),(4,.d (.sc (.pointer Lf))),(5,int 0),(8,.pt 48032 0 0),(11,int i)],seaB (Z04 h).1 (addN l rf ps.length)++[(16002,hpB h)],13⟩):=by
 unfold siL seaB hpB;exact sF [] [] (Ffb 72 (Ld ((ps.length:Int)<(ps.length:Int))) Fz)
theorem Zoj(hb:(Li (Z0q h a).length).find? (rfsB (Z0q h a) (Z04 h).1)=Lf):CP (blkF f55 4) (Tg.st ⟨tm 102 [(2,.pt 16002 0 0),(4,.d (.sc (.pointer Lf))),(5,int 0),(8,.pt 48032 0 0),(11,int i),(69,.d (.sl 1 ((Z01 (atH h a).1).map idv))),(70,int (Z01 (atH h a).1).length),(71,int 0)],[(48032,.box 105 [Z02 (Z04 h).1,.pt 48030 0 99999,.ow 48031]),(48031,.arr 35 1 (l.map wdv)),(48030,.mp l),(16002,.box 28 [int h.C.pw,int h.C.pg,.d (.sl 1 (h.W.map wdv)),.d (.sl 4 (h.P.map Page.dv)),int h.S,int h.B])],13⟩) .nrm (Tg.st ⟨tm 102 [(2,.pt 16002 0 0),(4,.d (.sc (.pointer Lf))),(5,int 0),(8,.pt 48032 0 0),(11,int i)],seaB (Z04 h).1 (addN l (Z0q h a) (Z0q h a).length)++[(16002,hpB h)],13⟩):=by
 have e:=ZaR hb;have le:(Z0q h a).length=(Z01 (atH h a).1).length:=by rw[Z0q,Lm]
 rw[le];exact Z0b (S:=λj=>(siL h l i (Z01 (atH h a).1) (Z0q h a) j).st) (Z01 (atH h a).1).length kr (λj hj=>ZhZ h l i j a hw hp hi el ea hj (λm hm=>e m oq)) (Zpw h l i _ _)
theorem ZmK(hb:((Li (Z0q h a).length).find? (rfsB (Z0q h a) (Z04 h).1)).isSome=La):CP (blkF f55 4) (Tg.st ⟨tm 102 [(2,.pt 16002 0 0),(4,.d (.sc (.pointer Lf))),(5,int 0),(8,.pt 48032 0 0),(11,int i),(69,.d (.sl 1 ((Z01 (atH h a).1).map idv))),(70,int (Z01 (atH h a).1).length),(71,int 0)],[(48032,.box 105 [Z02 (Z04 h).1,.pt 48030 0 99999,.ow 48031]),(48031,.arr 35 1 (l.map wdv)),(48030,.mp l),(16002,.box 28 [int h.C.pw,int h.C.pg,.d (.sl 1 (h.W.map wdv)),.d (.sl 4 (h.P.map Page.dv)),int h.S,int h.B])],13⟩) .ret (Tg.st ⟨tm 102 [(4,.d (.sc (.pointer Lf))),(5,int 19)],[],60⟩):=by
 obtain⟨n,hb⟩:=LQ.1 hb;obtain⟨h1,h2,h3⟩:=Lx.1 hb;have h2:=Ln.1 h2;have le:(Z0q h a).length=(Z01 (atH h a).1).length:=by rw[Z0q,Lm]
 have e:∀ m,m<n->rfsB (Z0q h a) (Z04 h).1 m=Lc:=λm hm=>by simpa using h3 m hm
 exact Z0y (S:=λj=>(siL h l i (Z01 (atH h a).1) (Z0q h a) j).st) n kr (λj hj=>ZhZ h l i j a hw hp hi el ea oq (λm hm=>e m oq)) (Zpu h l i n a hw hp hi el ea oq e h1)
end
def soL(h:Heap)(roots:List Int)(k:Nat):Tg:=⟨tm 102 [(2,.pt 16002 0 0),(4,.d (.sc (.pointer Lf))),(5,int 0),(8,.pt 48032 0 0),(11,int k)],seaB (Z04 h).1 (ordG h roots k)++[(16002,hpB h)],9⟩
section
variable (h:Heap) (roots:List Int) (k:Nat) (I:OrdI h roots k) (hw:WOk h.W) (hp:Z03 h=La)
include I hw hp
theorem ZiG(i:Nat)(hi:i<k):CP (rndF f55 2) (soL h roots i).st .nrm (soL h roots (i+1)).st:=by
 have ol:=Z19 h;obtain⟨o1,o2⟩:=I.lo i hi;have o3:=I.len (i:=i) oq;have o4:=I.len (i:=i+1) oq;have om:=(I.el i oq).2 _ (getD_mem_iff.2 ⟨i,o1,rfl⟩);have ox:=Z1f h _ om;obtain⟨g1,g2,g3⟩:=Z72 hp om;have gm:=Z3u hw ((ordG h roots i).getD i M);have o2:(Li (Z0q h ((ordG h roots i).getD i M)).length).find? (rfsB (Z0q h ((ordG h roots i).getD i M)) (Z04 h).1)=Lf:=by simpa[badG]using o2
 have el:=I.el i oq;have po:=Z07 hp;have e7:ordG h roots (i+1)=addN (ordG h roots i) (Z0q h ((ordG h roots i).getD i M)) (Z0q h ((ordG h roots i).getD i M)).length:=rfl;rw[e7]at o4;unfold soL seaB hpB;rw[e7];let y0:=(ordG h roots i).getD i M;exact sF [] [] (FM 49 50 wdv (ordG h roots i) i (Fm 61 wdv (ordG h roots i) (↑i) i (Fc 62 (@Z6y h y0 aa oq) (Ffb 66 ((atH h y0).2 != 0) (Fc 69 (@Z3Y ((atH h y0).1) aa) (Fl 70 idv (Z01 (atH h y0).1) (Fu (@Zoj h (ordG h roots i) i y0 aa aa aa aa (by rfl) aa) (Fx 52 i Fz))))))))
theorem Zpo(hi:k<(ordG h roots k).length)(hb:badG h roots k=La):CP (rndF f55 2) (soL h roots k).st .ret (Tg.st ⟨tm 102 [(4,.d (.sc (.pointer Lf))),(5,int 19)],[],60⟩):=by
 have ol:=Z19 h;have o3:=I.len (Lg k);have om:=(I.el k (Lg k)).2 _ (getD_mem_iff.2 ⟨k,hi,rfl⟩);have ox:=Z1f h _ om;obtain⟨g1,g2,g3⟩:=Z72 hp om;have gm:=Z3u hw ((ordG h roots k).getD k M);have el:=I.el k (Lg k);have po:=Z07 hp;unfold badG at hb;unfold soL seaB hpB;let y0:=(ordG h roots k).getD k M;exact sF [] [] (FM 49 50 wdv (ordG h roots k) k (Fm 61 wdv (ordG h roots k) (↑k) k (Fc 62 (@Z6y h y0 aa oq) (Ffb 66 ((atH h y0).2 != 0) (Fc 69 (@Z3Y ((atH h y0).1) aa) (Fl 70 idv (Z01 (atH h y0).1) (Fu (@ZmK h (ordG h roots k) k y0 aa aa aa aa (by rfl) aa) Fz)))))))
omit I hw hp in
theorem Zpq(e:(ordG h roots k).length<=k)(el:(ordG h roots k).length<=16384):CP (rndF f55 2) (soL h roots k).st (.ext 2) (Tg.st ⟨tm 102 [(4,.d (.sc (.pointer Lf))),(5,int 0),(8,.pt 48032 0 0)],seaB (Z04 h).1 (ordG h roots k),9⟩):=by
 unfold soL seaB hpB;exact sF [] [] (Fl 49 wdv (ordG h roots k) (Ffb 50 (Ld ((k:Int)<(↑(ordG h roots k).length:Int))) Fz))
def Zp7(e:(ordG h roots k).length<=k)  := Z0b (S:=λi=>(soL h roots i).st) k (by kernel_rfl) (λi hi=>ZiG h roots k I hw hp i hi) (Zpq h roots k e (I.len (Lg k)))
def Zne(hi:k<(ordG h roots k).length)(hb:badG h roots k=La)  := Z0y (S:=λi=>(soL h roots i).st) k (by kernel_rfl) (λi hi=>ZiG h roots k I hw hp i hi) (Zpo h roots k I hw hp hi hb)
theorem Zjk(ho:(Z04 h).2=0)(hl:roots.length<=1000)(hr:ULe roots)(hb:Z3P h roots=Lc)(hi:k<(ordG h roots k).length)(hb2:badG h roots k=La):BP 55 [h.av,Z02 roots] [] (.tu [.d (.sc (.pointer Lf)),int 19]) []:=by
 exact borF [] [] func55 [] (Fh 31 [.gh 35 1,.int 2] (Fc 19 (@Z0L h) (Ffb 20 (!Z03 h) (Fc 23 (@Z4j h aa) (Ffb 27 ((Z04 h).2 != 0) (Fl 34 wdv roots (Fu (@Zmi h roots aa aa aa) (Fu (@Zne h roots k I aa aa aa aa) Fz))))))))
theorem ZjB(ho:(Z04 h).2=0)(hl:roots.length<=1000)(hr:ULe roots)(hb:Z3P h roots=Lc)(e:(ordG h roots k).length<=k):BP 55 [h.av,Z02 roots] [] (.tu [.pt 0 0 0,int 0]) (seaP (Z04 h).1 (ordG h roots k)):=by
 exact borF [] [48032,48030,48031] func55 [] (Fh 31 [.gh 35 1,.int 2] (Fc 19 (@Z0L h) (Ffb 20 (!Z03 h) (Fc 23 (@Z4j h aa) (Ffb 27 ((Z04 h).2 != 0) (Fl 34 wdv roots (Fu (@Zmi h roots aa aa aa) (Fu (@Zp7 h roots k aa aa aa aa) Fz))))))))
end
def Tr(w:Work)(v x:Int):Prop:=(v=0/\x=0)\/(v∈w.old/\Z21 w v≠0/\x=Z21 w v)
def FT(h:Heap)(w:Work)(a q m:Int):Prop:=if Z0c (hdA h.W a) m=La then Tr w (loadA h.W (a+1+m)).1 (loadA w.heap.W (q+1+m)).1 else(loadA w.heap.W (q+1+m)).1=(loadA h.W (a+1+m)).1
def FT.mono{h:Heap}{w w':Work}{a q m:Int}(hl:loadA w'.heap.W (q+1+m)=loadA w.heap.W (q+1+m))(ht:∀ v x,Tr w v x->Tr w' v x)(f:FT h w a q m):FT h w' a q m:=by
 unfold FT at f ⊢;rw[hl];split
 .rename_i c;rw[if_pos c]at f;exact ht _ _ f
 .rename_i c;rw[if_neg c]at f;exact f
structure RT (h:Heap) (w:Work) (out:List Int) (n:Nat):Prop where
 f:∀ i,i<n->i<out.length->hdA w.heap.W (w.Q.getD i M)=hdA h.W (out.getD i M)/\∀ m,0<=m->m<hlA h.W (out.getD i M)->FT h w (out.getD i M) (w.Q.getD i M) m
section
variable {h:Heap} {T:Nat->List Int} {w:Work} {out:List Int} {n:Nat} (o:RO h T w out n) (g:Gd h T) (mv:MV h)
include o g mv
theorem RO.trOld{r v x:Int}(hr:r=0\/r∈w.old)(t:Tr w v x):Tr (w.fwd r).1 v x:=by
 rcases t with t | ⟨t1,t2,t3⟩
 .exact .inl t
 rcases hr with rfl | hr
 .rw[Work.fwd,if_pos (.inl rfl)];exact .inr ⟨t1,t2,t3⟩
 .by_cases hs:Z21 w r=0
  .obtain⟨s1,s2,s3,s4,s5⟩:=o.b.o.seen g mv hr;have ne:v≠r:=λq=>t2 (q▸hs);exact .inr ⟨by rw[s4];exact t1,by rw[s3 v t1 ne];exact t2,by rw[s3 v t1 ne];exact t3⟩
  .rw[o.b.o.same g mv hr hs];exact .inr ⟨t1,t2,t3⟩
theorem RO.trNew{r:Int}(hr:r=0\/r∈w.old):Tr (w.fwd r).1 r (w.fwd r).2.1:=by
 rcases hr with rfl | hr
 .rw[Work.fwd,if_pos (.inl rfl)];exact .inl ⟨rfl,rfl⟩
 .obtain⟨s1,s2,s3,s4,s5⟩:=o.b.o.seen g mv hr;exact .inr ⟨by rw[s4];exact hr,by rw[s2];exact s1,s2.symm⟩
theorem RT.fwd{p:Nat}(t:RT h w out p)(hn:p<=out.length){r:Int}(hr:r=0\/r∈w.old):RT h (w.fwd r).1 (addO out r) p:=by
 obtain⟨e,f,_⟩:=o.fwd g mv hr;have fs:=Z2Q o.b.o.c.ok o.b.o.c.inv r e;obtain⟨qm,hqm⟩:=fs.1;have ol:=o.l;refine⟨λi hi hi2=>?_⟩;obtain⟨a1,a2⟩:=Zfv out r (k:=i) oq;have q1:(w.fwd r).1.Q.getD i M=w.Q.getD i M:=by
  rw[hqm];simp only[Le];rw[LI oq]
 rw[a2,q1];obtain⟨t1,t2⟩:=t.f i hi oq;have mem:w.Q.getD i M∈w.Q:=getD_mem_iff.2 ⟨i,by omega,rfl⟩;have hl:hlA w.heap.W (w.Q.getD i M)=hlA h.W (out.getD i M):=congrArg Header.length t1;have same:=fs.2.2 _ (Lk _ mem) (.inl mem);refine⟨?_,λm m0 m1=>?_⟩
 .have:=same 0 oq (Z09 _ _).1;simp only[Ls]at this;rw[hdA,this];exact t1
 .refine FT.mono ?_ (λv x=>o.trOld g mv hr) (t2 m m0 m1);have:=same (1+m) oq oq;rw[<- Lw]at this;exact this
theorem RO.in1f{a:Nat}(hn:a<out.length){j:Int}(hj:0<=j/\j<hlA h.W (out.getD a M))(hq:hdA w.heap.W (w.Q.getD a M)=hdA h.W (out.getD a M))(hv:(loadA w.heap.W (w.Q.getD a M+1+j)).1=0\/(loadA w.heap.W (w.Q.getD a M+1+j)).1∈w.old) :
  (∀ z,z≠w.Q.getD a M+1+j->loadA (w.in1 (w.Q.getD a M+1+j)).heap.W z=loadA (w.fwd (loadA w.heap.W (w.Q.getD a M+1+j)).1).1.heap.W z) /\
  (loadA (w.in1 (w.Q.getD a M+1+j)).heap.W (w.Q.getD a M+1+j)).1=(w.fwd (loadA w.heap.W (w.Q.getD a M+1+j)).1).2.1 /\
  (∀ v x,Tr (w.fwd (loadA w.heap.W (w.Q.getD a M+1+j)).1).1 v x->Tr (w.in1 (w.Q.getD a M+1+j)) v x)/\(w.in1 (w.Q.getD a M+1+j)).Q=(w.fwd (loadA w.heap.W (w.Q.getD a M+1+j)).1).1.Q /\
  ∀ x∈(w.fwd (loadA w.heap.W (w.Q.getD a M+1+j)).1).1.Q,∀ i,0<=i->i<=hlA (w.fwd (loadA w.heap.W (w.Q.getD a M+1+j)).1).1.heap.W x->x+i=w.Q.getD a M+1+j->x=w.Q.getD a M:=by
 obtain⟨e,f,_⟩:=o.fwd g mv hv;have hqm:w.Q.getD a M∈w.Q:=getD_mem_iff.2 ⟨a,by have:=o.l;omega,rfl⟩;generalize hqe:w.Q.getD a M=q at *;have hl:hlA w.heap.W q=hlA h.W (out.getD a M):=congrArg Header.length hq;have hw:=o.b.o.c.ok;have iv:=o.b.o.c.inv;obtain⟨i1,x1⟩:=Z3z hw iv _ e;have hq1:=x1.q q hqm;have hl1:=x1.l q hqm;have hr:=i1.r q (Lk _ hq1);generalize hve:(loadA w.heap.W (q+1+j)).1=v at *;have hin:4096<=q+1+j/\q+1+j<4096+(w.fwd v).1.heap.W.length:=by omega
 have far:∀ x∈(w.fwd v).1.old++(w.fwd v).1.Q,∀ i,0<=i->i<=hlA (w.fwd v).1.heap.W x->x+i=q+1+j->x=q:=by
  intro x hx i y0 b c;have l1:=i1.s q (Lk _ hq1) x hx;have l2:=i1.s x hx q (Lk _ hq1);omega
 have wd:∀ z,z≠q+1+j->loadA (w.in1 (q+1+j)).heap.W z=loadA (w.fwd v).1.heap.W z:=λz hz=>by
  simp only[Work.in1,hve];rw[Z0l hin hz]
 have hh:∀ x∈(w.fwd v).1.old++(w.fwd v).1.Q,loadA (w.in1 (q+1+j)).heap.W x=loadA (w.fwd v).1.heap.W x:=λx hx=>wd x λc=>by
  have:=far x hx 0 oq (Z09 _ _).1 oq;omega
 have eq0:(w.in1 (q+1+j)).Q=(w.fwd v).1.Q:=by simp only[Work.in1,hve]
 have eo0:(w.in1 (q+1+j)).old=(w.fwd v).1.old:=by simp only[Work.in1,hve]
 have se:∀ y∈(w.fwd v).1.old,Z21 (w.in1 (q+1+j)) y=Z21 (w.fwd v).1 y:=λy hy=>by
  unfold Z21;rw[hh y (Lo _ hy),eq0]
 refine⟨wd, ?_,λu x t=>?_,eq0,λx hx=>far x (Lk _ hx)⟩
 .simp only[Work.in1,hve];rw[Z1s hin]
 .rcases t with t | ⟨t1,t2,t3⟩
  .exact .inl t
  .exact .inr ⟨by rw[eo0];exact t1,by rw[se u t1];exact t2,by rw[se u t1];exact t3⟩
theorem RT.in1{p:Nat}(t:RT h w out p){a:Nat}(ha:p<=a)(hn:a<out.length){j:Int}(hj:0<=j/\j<hlA h.W (out.getD a M))(hq:hdA w.heap.W (w.Q.getD a M)=hdA h.W (out.getD a M))(hv:(loadA w.heap.W (w.Q.getD a M+1+j)).1=0\/(loadA w.heap.W (w.Q.getD a M+1+j)).1∈w.old) :
  RT h (w.in1 (w.Q.getD a M+1+j)) (addO out (loadA w.heap.W (w.Q.getD a M+1+j)).1) p:=by
 have t1:=RT.fwd o g mv t oq hv;obtain⟨wd,_,tr,eq,far⟩:=o.in1f g mv hn hj hq hv;obtain⟨e,f,_⟩:=o.fwd g mv hv;have fl:=f.l;have fs:=Z2Q o.b.o.c.ok o.b.o.c.inv _ e;obtain⟨qm,hqm⟩:=fs.1;have ol:=o.l;have gq:∀ i,i<out.length->(w.fwd (loadA w.heap.W (w.Q.getD a M+1+j)).1).1.Q.getD i M=w.Q.getD i M:=λi hi=>by
  rw[hqm];simp only[Le];rw[LI oq]
 refine⟨λi hi hi2=>?_⟩;obtain⟨u1,u2⟩:=t1.f i hi hi2;rw[eq];have mem:(w.fwd (loadA w.heap.W (w.Q.getD a M+1+j)).1).1.Q.getD i M∈(w.fwd (loadA w.heap.W (w.Q.getD a M+1+j)).1).1.Q:=getD_mem_iff.2 ⟨i,by omega,rfl⟩;have nz:∀ m,0<=m->m<=hlA (w.fwd (loadA w.heap.W (w.Q.getD a M+1+j)).1).1.heap.W ((w.fwd (loadA w.heap.W (w.Q.getD a M+1+j)).1).1.Q.getD i M)->(w.fwd (loadA w.heap.W (w.Q.getD a M+1+j)).1).1.Q.getD i M+m≠w.Q.getD a M+1+j:=by
  intro m m0 m1 c;have z:=far _ mem m m0 m1 c;rw[gq i oq]at z;have h1:w.Q[i]? = Ll (w.Q.getD a M):=by rw[<- z,Le,Lh oq];rfl
  have h2:w.Q[a]? = Ll (w.Q.getD a M):=by rw[Le,Lh oq];rfl
  have:=(List.getElem?_inj oq o.nd).1 (h1.trans h2.symm);omega
 have hl:hlA (w.fwd (loadA w.heap.W (w.Q.getD a M+1+j)).1).1.heap.W ((w.fwd (loadA w.heap.W (w.Q.getD a M+1+j)).1).1.Q.getD i M)=hlA h.W ((addO out (loadA w.heap.W (w.Q.getD a M+1+j)).1).getD i M):=congrArg Header.length u1;have r0:=(Z09 (w.fwd (loadA w.heap.W (w.Q.getD a M+1+j)).1).1.heap.W ((w.fwd (loadA w.heap.W (w.Q.getD a M+1+j)).1).1.Q.getD i M)).1;refine⟨?_,λm m0 m1=>FT.mono (wd _ ?_) tr (u2 m m0 m1)⟩
 .have:=wd _ (λc=>nz 0 oq r0 (by rw[Ls];exact c));rw[hdA,this];exact u1
 .have:=nz (1+m) oq oq;rw[<- Lw]at this;exact this
theorem RT.inn(t:RT h w out n){q x:Int}{l:List Int}(hn:n<out.length)(hq:w.Q.getD n M=q)(hx:out.getD n M=x)(hl:Z01 (hdA h.W x)=l):∀ k,k<=l.length->RT h (innN w q l k) (addN out (l.map λj=>(loadA h.W (x+1+j)).1) k) n/\(∀ i,i<k->Tr (innN w q l k) (loadA h.W (x+1+l.getD i M)).1 (loadA (innN w q l k).heap.W (q+1+l.getD i M)).1)/\∀ v y,Tr w v y->Tr (innN w q l k) v y
 | 0,_=>⟨t,λi hi=>absurd hi (Lr i),λ_ _ t=>t⟩
 | k+1,hk=>by
  obtain⟨t1,t2,t3⟩:=RT.inn t hn hq hx hl k oq;obtain⟨i1,i2,i3,i4,i5,i6,i7⟩:=o.inn g mv hn hq hx hl k oq;have hj:l.getD k M∈Z01 (hdA h.W x):=by rw[hl];exact getD_mem_iff.2 ⟨k,by omega,rfl⟩
  have jb:=Z1S _ _ hj;have nd:=Z7s (hdA h.W x);rw[hl]at nd;have hne:∀ i,i<k->l.getD i M≠l.getD k M:=λi hi c=>by
   simp only[Le]at c;rw[Lh oq,Lh oq]at c;have:=(List.getElem_inj nd).1 c;omega
  have ev:=i7 (l.getD k M) jb.1 jb.2 hne;have xo:x∈(innN w q l k).old:=by
   have:=(i1.i n i6).1;rw[i5]at this;exact this
  have ov:=i1.old g xo hj;have em:(l.map λj=>(loadA h.W (x+1+j)).1).getD k M=(loadA h.W (x+1+l.getD k M)).1:=by
   simp only[Le,LL,Lh (show k<l.length by omega),LR,Lv]
  have e2:addN out (l.map λj=>(loadA h.W (x+1+j)).1) (k+1)=addO (addN out (l.map λj=>(loadA h.W (x+1+j)).1) k) (loadA h.W (x+1+l.getD k M)).1:=by rw[addN,em]
  have hv:(loadA (innN w q l k).heap.W ((innN w q l k).Q.getD n M+1+l.getD k M)).1=0\/(loadA (innN w q l k).heap.W ((innN w q l k).Q.getD n M+1+l.getD k M)).1∈(innN w q l k).old:=by
   rw[i3,ev];exact ov
  have hjj:0<=l.getD k M/\l.getD k M<hlA h.W ((addN out (l.map λj=>(loadA h.W (x+1+j)).1) k).getD n M):=by rw[i5];exact jb
  have hhd:hdA (innN w q l k).heap.W ((innN w q l k).Q.getD n M)=hdA h.W ((addN out (l.map λj=>(loadA h.W (x+1+j)).1) k).getD n M):=by rw[i3,i5];exact i4
  have r1:=RT.in1 i1 g mv t1 (a:=n) (Lg n) i6 hjj hhd hv;obtain⟨wd,wq,tr,eq,far⟩:=i1.in1f g mv i6 hjj hhd hv;have tro:=λv y=>i1.trOld g mv (v:=v) (x:=y) hv;have trn:=i1.trNew g mv hv;obtain⟨e,f,_⟩:=i1.fwd g mv hv;have fs:=(Z2Q i1.b.o.c.ok i1.b.o.c.inv _ e).2.2;rw[i3]at r1 wd wq tr tro trn fs;rw[ev]at r1 trn tr tro;rw[e2];refine⟨r1,λi hi=>?_,λv y t=>tr v y (tro v y (t3 v y t))⟩;show Tr ((innN w q l k).in1 (q+1+l.getD k M)) _ (loadA ((innN w q l k).in1 (q+1+l.getD k M)).heap.W (q+1+l.getD i M)).1;by_cases c:i=k
  .rw[c,wq,ev];exact tr _ _ trn
  .have lb:=Z1S _ _ (show l.getD i M∈Z01 (hdA h.W x) by rw[hl];exact getD_mem_iff.2 ⟨i,by omega,rfl⟩);have qm:q∈(innN w q l k).Q:=by have e0:=i1.l;exact getD_mem_iff.2 ⟨n,by omega,i3⟩
   have hlq:hlA (innN w q l k).heap.W q=hlA h.W x:=congrArg Header.length i4;have lb2:l.getD i M<hlA h.W x:=lb.2;rw[wd _ (by have:=hne i oq;omega),show q+1+l.getD i M=q+(1+l.getD i M) by omega,fs q (Lk _ qm) (.inl qm) (1+l.getD i M) oq oq,<- Lw];exact tr _ _ (tro _ _ (t2 i oq))
theorem RT.step(t:RT h w out n)(hn:n<out.length)(hs:w.D=n):RT h (Z0r w).1 (addN out (Z62 h (out.getD n M)) (Z62 h (out.getD n M)).length) (n+1)/\∀ v y,Tr w v y->Tr (Z0r w).1 v y:=by
 have hx:=(o.i n hn).1;obtain⟨tq,k⟩:=o.b.o.c.k;obtain⟨i0,hx0,hk0⟩:=(k.old _).1 hx;have e1:=g.refs hx0 hk0;have eh:hdA w.heap.W (w.Q.getD n M)=hdA h.W (out.getD n M):=by
  have:=o.uq n (Lg _) hn 0 oq (Z09 _ _).1;simp only[Ls]at this;rw[hdA,hdA,this]
 have ha:Z1G w=w.Q.getD n M:=by unfold Z1G;rw[hs,L0]
 have hp:Z0T w=Z01 (hdA h.W (out.getD n M)):=by unfold Z0T hdW;rw[ha];exact congrArg Z01 eh
 obtain⟨i1,i2,i3,i4,i5,i6,i7⟩:=o.inn g mv hn rfl rfl rfl (Z01 (hdA h.W (out.getD n M))).length (Lg _);obtain⟨t1,t2,t3⟩:=RT.inn o g mv t hn rfl rfl rfl (Z01 (hdA h.W (out.getD n M))).length (Lg _);have hlt:w.D<w.Q.length:=by rw[hs,o.l];omega
 have hb:(Li (Z0T w).length).find? (λk=>Ld (innE w (Z1G w) (Z0T w) k≠0))=Lf:=Lt.2 λj hj=>by
  have hj:=Ln.1 hj;have e:=i2 j (by rw[hp]at hj;exact hj);rw[ha,hp];rw[e];simp
 have e7:Z0r w=(Z7H (innN w (Z1G w) (Z0T w) (Z0T w).length) (Z0T w).length,La,0):=by unfold Z0r;rw[if_pos hlt,hb]
 rw[e7,ha,hp,e1,Lm];refine⟨⟨λi hi hi2=>?_⟩,λv y t=>t3 v y t⟩;by_cases c:i=n
 .subst c;show hdA (innN w _ _ _).heap.W ((innN w _ _ _).Q.getD i M)=_/\_;rw[i5];refine⟨by rw[i3];exact i4,λm m0 m1=>?_⟩;show FT h (innN w _ _ _) _ ((innN w _ _ _).Q.getD i M) m;rw[i3];unfold FT;by_cases pm:Z0c (hdA h.W (out.getD i M)) m=La
  .rw[if_pos pm];obtain⟨j,j1,j2⟩:=getD_mem_iff.1 (show m∈Z01 (hdA h.W (out.getD i M))from Z4C m0 m1 pm);have:=t2 j j1;rw[j2]at this;exact this
  .rw[if_neg pm];exact i7 m m0 m1 λj hj q=>pm (by
    have:=Z3a (hdA h.W (out.getD i M)) _ (getD_mem_iff.2 ⟨j,hj,rfl⟩);rw[q]at this;exact this)
 .exact t1.f i oq hi2
end
section
variable {h:Heap} {T:Nat->List Int} (g:Gd h T) (mv:MV h) {s:List Int} (hs:∀ r∈s,r=0\/Ob h T r) (hw:WOk h.W)
include g mv hs hw
theorem RT.roots:∀ k,k<=s.length->RT h (rootsN (beginW h) s k).1 (addN [] s k) 0/\∀ i,i<k->Tr (rootsN (beginW h) s k).1 (s.getD i M) ((rootsN (beginW h) s k).2.getD i M)
 | 0,_=>⟨⟨λi hi=>absurd hi (Lr i)⟩,λi hi=>absurd hi (Lr i)⟩
 | k+1,hk=>by
  obtain⟨t1,t2⟩:=RT.roots k oq;obtain⟨i1,i2⟩:=RO.roots g mv hs hw k oq;obtain⟨tq,ki⟩:=i1.b.o.c.k;have hr:=(hs _ (getD_mem_iff.2 ⟨k,by omega,rfl⟩)).imp id λq=>(ki.old _).2 q;have ln:=Z2F (beginW h) s k;refine⟨⟨λi hi=>absurd hi (Lr i)⟩,λi hi=>?_⟩;show Tr ((rootsN (beginW h) s k).1.fwd _).1 _ (((rootsN (beginW h) s k).2++[_]).getD i M);rw[Z4h,ln];by_cases c:i<k
  .rw[if_pos c];exact i1.trOld g mv hr (t2 i c)
  .have c:i=k:=by omega
   rw[if_neg oq,if_pos c,c];exact i1.trNew g mv hr
theorem RT.it:∀ k,(∀ j,j<k->j<(ordN h s j).length)->RT h (itW (rootsF (beginW h) s).1 k) (ordN h s k) k/\∀ i,i<s.length->Tr (itW (rootsF (beginW h) s).1 k) (s.getD i M) ((rootsF (beginW h) s).2.1.getD i M)
 | 0,_=>by
  obtain⟨t1,t2⟩:=RT.roots g mv hs hw s.length (Lg _);obtain⟨e,_⟩:=SW.roots g mv hs hw;rw[e];exact⟨t1,t2⟩
 | k+1,hk=>by
  obtain⟨t1,t2⟩:=RT.it k (λj hj=>hk j oq);obtain⟨i1,i2⟩:=RO.it g mv hs hw k (λj hj=>hk j oq);obtain⟨u1,u2⟩:=RT.step i1 g mv t1 (hk k oq) i2;exact⟨u1,λi hi=>u2 _ _ (t2 i hi)⟩
theorem Zkv:∃ k,OrdE h s k/\RO h T (cW2 h s) (ordN h s k) k/\(ordN h s k).length=k/\RT h (cW2 h s) (ordN h s k) k/\∀ i,i<s.length->Tr (cW2 h s) (s.getD i M) ((rootsF (beginW h) s).2.1.getD i M):=by
 obtain⟨k,E,ro,sc,ln,e7⟩:=Zla g mv hs hw;obtain⟨t1,t2⟩:=RT.it g mv hs hw k (λj hj=>(E.o j hj).1);rw[<- e7]at t1 t2;exact⟨k,E,ro,ln,t1,t2⟩
end
def Zkf(out:List Int)(r:Int):(r=0\/r∈addO out r)/\∀ x∈out,x∈addO out r:=by
 unfold addO;split
 .rename_i c;exact⟨c,λ_ h=>h⟩
 .exact⟨.inr pq,λx h=>by simp[h]⟩
def Z80(out refs:List Int):∀ n,(∀ x∈out,x∈addN out refs n)/\∀ j,j<n->refs.getD j M=0\/refs.getD j M∈addN out refs n
 | 0=>⟨λ_ h=>h,λj h=>by omega⟩
 | n+1=>by
  obtain⟨h1,h2⟩:=Z80 out refs n;obtain⟨h3,h4⟩:=Zkf (addN out refs n) (refs.getD n M);refine⟨λx hx=>h4 x (h1 x hx),λj hj=>?_⟩;by_cases q:j=n
  .rw[q];exact h3
  .exact(h2 j oq).imp id λh=>h4 _ h
def Z6R(h:Heap)(roots:List Int)(i:Nat):∀ d,(∀ x∈ordG h roots i,x∈ordG h roots (i+d))/\∀ j,j<(ordG h roots i).length->j<(ordG h roots (i+d)).length/\(ordG h roots (i+d)).getD j M=(ordG h roots i).getD j M
 | 0=>⟨λ_ h=>h,λ_ h=>⟨h,rfl⟩⟩
 | d+1=>by
  obtain⟨h1,h2⟩:=Z6R h roots i d;refine⟨λx hx=>(Z80 _ _ _).1 x (h1 x hx),λj hj=>?_⟩;obtain⟨h3,h4⟩:=h2 j hj;obtain⟨h5,h6⟩:=Zbx (ordG h roots (i+d)) (Z0q h ((ordG h roots (i+d)).getD (i+d) M)) h3 (Z0q h ((ordG h roots (i+d)).getD (i+d) M)).length;exact⟨h5,h6.trans h4⟩
structure OrdL (h:Heap) (roots l:List Int):Prop where
 p:Z03 h=La
 nd:l.Nodup
 el:∀ x∈l,x∈(Z04 h).1
 n0:(0:Int)∉l
 rt:∀ r∈roots,r=0\/r∈l
 cl:∀ a∈l,∀ v∈Z0q h a,v=0\/v∈l
 len:l.length<=16384
def Zev{h:Heap}{roots:List Int}{k:Nat}(I:OrdI h roots k)(hp:Z03 h=La)(e:(ordG h roots k).length<=k):OrdL h roots (ordG h roots k):=by
 refine⟨hp,(I.el k (Lg k)).1,(I.el k (Lg k)).2,λq=>?_,λr hr=>?_,λa ha v hv=>?_,I.len (Lg k)⟩
 .exact Zb8 h (Z72 hp ((I.el k (Lg k)).2 _ q)).2.1
 .obtain⟨j,hj,rfl⟩:=getD_mem_iff.1 hr;exact((Z80 [] roots roots.length).2 j hj).imp id λq=>by
   have:=(Z6R h roots 0 k).1 _ q;rwa [LZ]at this
 .obtain⟨i,hi,rfl⟩:=getD_mem_iff.1 ha;obtain⟨j,hj,rfl⟩:=getD_mem_iff.1 hv;obtain⟨o1,_⟩:=I.lo i oq;have p1:=Z6R h roots i (k-i);rw[show i+(k-i)=k from by omega]at p1;rw[(p1.2 i o1).2]at hj ⊢;have m:=(Z80 (ordG h roots i) (Z0q h ((ordG h roots i).getD i M)) (Z0q h ((ordG h roots i).getD i M)).length).2 j hj;refine m.imp id λq=>?_;have p2:=Z6R h roots (i+1) (k-(i+1));rw[show i+1+(k-(i+1))=k from by omega]at p2;exact p2.1 _ q
section
variable (h:Heap) (roots:List Int) (hw:WOk h.W) (hl:roots.length<=1000) (hr:ULe roots)
include hw hl hr
theorem Z8S:((Z0v h roots).2=0/\OrdL h roots (Z0v h roots).1/\BP 55 [h.av,Z02 roots] [] (.tu [.pt 0 0 0,int 0]) (seaP (Z04 h).1 (Z0v h roots).1)) \/
  ((Z0v h roots).2≠0/\(Z0v h roots).1=[]/\BP 55 [h.av,Z02 roots] [] (.tu [.d (.sc (.pointer Lf)),int (Z0v h roots).2]) []):=by
 unfold Z0v;by_cases hp:Z03 h=La
 .rw[if_pos hp];by_cases ho:(Z04 h).2=0
  .rw[if_pos ho];by_cases hb:Z3P h roots=La
   .rw[if_pos (.inl hb)];exact .inr ⟨by simp,rfl,ZjJ h roots hw hp ho hl hr hb⟩
   .have hb':Z3P h roots=Lc:=by simpa using hb
    obtain⟨I,e⟩:=ZfS hb';by_cases c:(ordZ h roots)<(ordG h roots (ordZ h roots)).length/\badG h roots (ordZ h roots)=La
    .rw[if_pos (.inr c)];exact .inr ⟨by simp,rfl,Zjk h roots _ I hw hp ho hl hr hb' c.1 c.2⟩
    .rw[if_neg (λq=>q.elim hb c)];have e':(ordG h roots (ordZ h roots)).length<=ordZ h roots:=by
      rcases e with e | e
      .exact e
      .exact Nat.not_lt.1 λq=>c ⟨q,e⟩
     exact .inl ⟨rfl,Zev I hp e',ZjB h roots _ I hw hp ho hl hr hb' e'⟩
  .rw[if_neg ho];exact .inr ⟨ho,rfl,ZjD h roots hw hp ho⟩
 .rw[if_neg hp];exact .inr ⟨by simp,rfl,Zje h roots hw (by simpa using hp)⟩
theorem ZgW(e:(Z0v h roots).2=0):BP 55 [h.av,Z02 roots] [] (.tu [.pt 0 0 0,int 0]) (seaP (Z04 h).1 (Z0v h roots).1):=by
 rcases Z8S h roots hw hl hr with⟨_,_,h2⟩ | ⟨h0,_⟩
 .exact h2
 .exact absurd e h0
theorem Zed(e:(Z0v h roots).2≠0):BP 55 [h.av,Z02 roots] [] (.tu [.d (.sc (.pointer Lf)),int (Z0v h roots).2]) []:=by
 rcases Z8S h roots hw hl hr with⟨h0,_⟩ | ⟨_,_,h2⟩
 .exact absurd h0 e
 .exact h2
theorem Zc5(e:(Z0v h roots).2=0):OrdL h roots (Z0v h roots).1:=by
 rcases Z8S h roots hw hl hr with⟨_,h1,_⟩ | ⟨h0,_⟩
 .exact h1
 .exact absurd e h0
end
def Z7b(h:Header):∀ n:Nat,∀ x∈Z0G h n,Z0c h x=La
 | 0,x,hx=>by cases hx
 | n+1,x,hx=>by
  unfold Z0G at hx;split at hx
  .rename_i c;rcases Lu.1 hx with q | q
   .exact Z7b h n x q
   .rw[Lq.1 q];exact c
  .exact Z7b h n x hx
section
variable {h:Heap} {T:Nat->List Int} (g:Gd h T)
include g
theorem Gd.refsOb{a:Int}(ha:a∈(Z04 h).1):∀ v∈Z0q h a,v=0\/v∈(Z04 h).1:=by
 intro v hv;obtain⟨i,hx,hk⟩:=(g.objs.2 a).1 ha;unfold Z0q at hv;rw[g.at' hx]at hv;obtain⟨p,hp,rfl⟩:=LC.1 hv;simp only at hp;have pq:0<=p/\p<hlA h.W a/\Z0c (hdA h.W a) p=La:=by
  unfold Z01 at hp;split at hp
  .have r:=Z1V _ _ _ hp;have l:(hdA h.W a).length=hlA h.W a:=rfl;exact⟨r.1,by omega,Z7b _ _ _ hp⟩
  .simp at hp
 rcases g.q i a p hx hk pq.1 pq.2.1 pq.2.2 with h0 | ⟨j,h1,h2⟩
 .exact .inl h0
 .exact .inr ((g.objs.2 _).2 ⟨j,h1,h2⟩)
theorem Gd.order{s:List Int}(hs:∀ r∈s,r=0\/Ob h T r):(Z0v h s).2=0:=by
 have no:∀ {l:List Int},(∀ r∈l,r=0\/r∈(Z04 h).1)->((Li l.length).find? (rfsB l (Z04 h).1)).isSome=Lc:=by
  intro l hl;cases e:(Li l.length).find? (rfsB l (Z04 h).1)with
  | none=>rfl
  | some j =>
   obtain⟨h1,h2,_⟩:=Lx.1 e;have q:=of_decide_eq_true h1;rcases hl _ (getD_mem_iff.2 ⟨j,Ln.1 h2,rfl⟩)with c | c
   .exact absurd c q.1
   .exact absurd c q.2
 have hb:Z3P h s=Lc:=no λr hr=>(hs r hr).imp id (g.objs.2 r).2;obtain⟨I,e⟩:=ZfS hb;unfold Z0v;rw[if_pos g.p,if_pos g.objs.1,if_neg];rintro(q | ⟨q1,q2⟩)
 .rw[hb]at q;cases q
 .have:=no (g.refsOb ((I.el _ (Lg _)).2 _ (getD_mem_iff.2 ⟨ordZ h s,q1,rfl⟩)));unfold badG at q2;rw[this]at q2;cases q2
end
def numB(l:List Int)(v:Int):Int:=if v∈l then(l.idxOf v:Int)+1 else 0
def Zgl(l:List Int)(v:Int):0<=numB l v/\numB l v<=l.length:=by
 unfold numB;split
 .rename_i h;have:=List.idxOf_lt_length_iff.2 h;omega
 .omega
def Znp{l:List Int}{v:Int}(h:v∈l):l.idxOf v<l.length/\l.getD (l.idxOf v) M=v/\∀ i,i<l.idxOf v->l.getD i M≠v:=by
 have h1:=List.idxOf_lt_length_iff.2 h;refine⟨h1, ?_,λi hi q=>?_⟩
 .rw[Le,Lh h1,Lv,List.getElem_idxOf]
 .rw[Le,Lh oq,Lv]at q;have:=List.not_of_lt_findIdx (p:=λx=>x==v) (xs:=l) (i:=i) hi;simp[q]at this
def numL(l fs ps:List Int):Nat->List Int
 | 0=>fs
 | j+1=>(numL l fs ps j).set (ps.getD j M).toNat (numB l (fs.getD (ps.getD j M).toNat M))
def Z4x(l fs ps:List Int):∀ j,(numL l fs ps j).length=fs.length
 | 0=>rfl
 | j+1=>by rw[numL,List.length_set,Z4x l fs ps j]
def Zfy(l fs ps:List Int)(i:Nat):∀ j,(∀ m,m<j->(ps.getD m M).toNat≠i)->(numL l fs ps j).getD i M=fs.getD i M
 | 0,_=>rfl
 | j+1,h=>by
  rw[numL];simp only[Le];rw[Xb (by simpa[Le]using h j oq)];have:=Zfy l fs ps i j (λm hm=>h m oq);simpa only[Le]using this
structure NodeG where
 hd:Header
 fs:List Int
instance:Inhabited NodeG:=⟨⟨default,[]⟩⟩
def NodeG.dv(n:NodeG):List DV:=[dint n.hd.K,dint n.hd.length,.sc (.int .u32 n.hd.map),.sl 1 (n.fs.map wdv)]
def NodeG.cells(n:NodeG):List AV:=[int n.hd.K,int n.hd.length,u32 n.hd.map,Z02 n.fs]
def Zaz(hd:Header):∀ n:Nat,(Z0G hd n).Nodup
 | 0=>Lz
 | n+1=>by
  have ih:=Zaz hd n;unfold Z0G;split
  .rw[LW];refine⟨ih,by simp,λa ha b hb=>?_⟩;have:=(Z1V hd n a ha).2;rw[Lq]at hb;omega
  .exact ih
def Zkh{l:List Int}{i:Nat}{x:Int}(hi:i<l.length)(h:l.getD i M=x):l.set i x=l:=by
 rw[<- h,Le,Lh hi,Lv];exact List.set_getElem_self hi
def fldG(h:Heap)(a:Int):List Int:=(Z18 h.W (a+1) (atH h a).1.length).1
def Z2r(h:Heap)(l:List Int)(a:Int):NodeG:=⟨(atH h a).1,numL l (fldG h a) (Z01 (atH h a).1) (Z01 (atH h a).1).length⟩
def Zh7(ws:List Int)(a n:Int)(hw:ws.length<=1048576)(h0:4096<=a/\0<=n/\n<=1000/\a-4096+n<=ws.length):GP 117 [Z02 ws,u64 a,int n] La (.tu [.ow 0,int 0]) [.arr 35 1 (((ws.drop (a-4096).toNat).take n.toNat).map wdv)]:=by
 have ei1:(Z08 ws a n).1=a-4096:=by rw[Z08,if_pos oq]
 have e2:(Z08 ws a n).2=La:=by rw[Z08,if_pos oq];simp;omega
 exact gF [41027] func117 [Lc,La] (Fh 26 [.els (Lb wdv (Lj (((Z08 ws a n).1+n).toNat-(Z08 ws a n).1.toNat) (LA (Z08 ws a n).1.toNat ws)))] (Ffb 11 (Ld (n<0)) (Fc 16 (@Z74 ws a n aa oq) (Ffb 20 (!(Z08 ws a n).2) (Fi 25 ((Z08 ws a n).1+n) (Fa (by(simp only[Lm];omega):0<=(Z08 ws a n).1/\(Z08 ws a n).1<=(Z08 ws a n).1+n/\(Z08 ws a n).1+n<=(↑(Lb wdv ws).length:Int)) (Fa (by simp[e2,LH,LF,LG,Ly,wdv,idv]:Lj (((Z08 ws a n).1+n).toNat-(Z08 ws a n).1.toNat) (LA (Z08 ws a n).1.toNat (Lb wdv ws))=Lb wdv (Lj (((Z08 ws a n).1+n).toNat-(Z08 ws a n).1.toNat) (LA (Z08 ws a n).1.toNat ws))) (Fc 27 (@ZeD (Lj (((Z08 ws a n).1+n).toNat-(Z08 ws a n).1.toNat) (LA (Z08 ws a n).1.toNat ws)) (by(simp[e2, *];omega))) (Fa (by exact Z4k _:Z1p (Lb wdv (Lj (((Z08 ws a n).1+n).toNat-(Z08 ws a n).1.toNat) (LA (Z08 ws a n).1.toNat ws)))) (Fr (35:Int) (Fa (by refine congrArg _ ?_;(simp[e2, *];omega):Lb wdv (Lj (((Z08 ws a n).1+n).toNat-(Z08 ws a n).1.toNat) (LA (Z08 ws a n).1.toNat ws))=Lb wdv (Lj n.toNat (LA (a-4096).toNat ws))) Fz)))))))))))
def Z3c{h:Heap}{a:Int}(hp:Z03 h=La)(ha:a∈(Z04 h).1):4096<=a/\a<=8192/\0<=(atH h a).1.length/\(atH h a).1.length<=255/\a+(atH h a).1.length<4096+h.W.length/\(atH h a).2=0/\((fldG h a).length:Int)=(atH h a).1.length/\fldG h a=(h.W.drop (a+1-4096).toNat).take (atH h a).1.length.toNat /\
  (Z01 (atH h a).1).Nodup/\(∀ p∈Z01 (atH h a).1,0<=p/\p<(atH h a).1.length/\(fldG h a).getD p.toNat M∈Z0q h a):=by
 have ox:=Z1f h a ha;obtain⟨g1,g2,g3⟩:=Z72 hp ha;have ir:=ZeX g2;have v:=Z3B g1;have e0:getH h a=atH h a:=v.1;rw[e0]at v;have fe:fldG h a=(h.W.drop (a+1-4096).toNat).take (atH h a).1.length.toNat:=by rw[fldG,Z18,if_neg oq,if_pos oq]
 have fl:((fldG h a).length:Int)=(atH h a).1.length:=by rw[fe,Lp,Xd];omega
 refine⟨ir.1,ox.2,by omega,by omega,ir.2,g2,fl,fe, ?_,λp hp=>?_⟩
 .unfold Z01;split
  .exact Zaz _ _
  .exact Lz
 .have pr:0<=p/\p<(atH h a).1.length:=by
   have:=hp;unfold Z01 at this;split at this
   .have:=Z1V _ _ _ this;omega
   .simp at this
  refine⟨pr.1,pr.2,LC.2 ⟨p,hp, ?_⟩⟩;rw[fe,loadA,if_pos oq];simp only[Le,LM,L2];rw[if_pos oq,show(a+1-4096).toNat+p.toNat=(a+1+p-4096).toNat by omega];rfl
def ZlO(h:Heap)(a:Int)(hp:Z03 h=La)(ha:a∈(Z04 h).1):GP 117 [Z02 h.W,u64 (a+1),int (atH h a).1.length] La (.tu [.ow 0,int 0]) [.arr 35 1 ((fldG h a).map wdv)]:=by
 have f:=Z3c hp ha;have po:=Z07 hp;have:=Zh7 h.W (a+1) (atH h a).1.length oq oq;rw[f.2.2.2.2.2.2.2.1];exact this
def noL(h:Heap)(all l:List Int)(a:Int)(j:Nat):Tg:=⟨tm 67 [(0,.pt 0 0 0),(6,.pt 16006 0 0),(7,int 0),(8,.pt 24008 0 0),(10,.ow 41030),(38,.d (.sl 1 ((Z01 (atH h a).1).map idv))),(39,int (Z01 (atH h a).1).length),(40,int j)],[(41030,.arr 35 1 ((numL l (fldG h a) (Z01 (atH h a).1) j).map wdv)),(24008,.box 52 [int (atH h a).1.K,int (atH h a).1.length,u32 (atH h a).1.map]),(16006,.box 54 [int 0,int 0,u32 0,.d (.sl 0 [])]),(0,.box 105 [Z02 all,.pt 1 0 99999,.ow 2]),(1,.mp l),(2,.arr 35 1 (l.map wdv))],8⟩
section
variable (h:Heap) (all l:List Int) (a:Int) (hp:Z03 h=La) (ha:a∈(Z04 h).1) (cl:∀ v∈Z0q h a,v=0\/v∈l) (hl:l.length<=16384) (n0:(0:Int)∉l)
include hp ha cl hl n0
theorem Zni(j:Nat)(hj:j<(Z01 (atH h a).1).length):CP (rndF f60 0) (noL h all l a j).st .nrm (noL h all l a (j+1)).st:=by
 have pl:=(Z1P (atH h a).1).1;obtain⟨f1,f2,f3,f4,f5,f6,f7,f8,f9,f10⟩:=Z3c hp ha;have pm:=getD_mem_iff.2 ⟨j,hj,rfl⟩;obtain⟨p1,p2,p3⟩:=f10 _ pm;have nl:=Z4x l (fldG h a) (Z01 (atH h a).1) j;have ng:=Zfy l (fldG h a) (Z01 (atH h a).1) ((Z01 (atH h a).1).getD j M).toNat j (λm hm q=>by
  have d:=(L4.1 f9) m j oq hj hm;obtain⟨m1,m2,_⟩:=f10 _ (getD_mem_iff.2 ⟨m,by omega,rfl⟩);have e1:(Z01 (atH h a).1).getD m M=(Z01 (atH h a).1)[m]:=by rw[Le,Lh oq];rfl
  have e2:(Z01 (atH h a).1).getD j M=(Z01 (atH h a).1)[j]:=by rw[Le,Lh hj];rfl
  omega)
 have nr:=Zgl l ((fldG h a).getD ((Z01 (atH h a).1).getD j M).toNat M);have cv:=cl _ p3;by_cases c:(fldG h a).getD ((Z01 (atH h a).1).getD j M).toNat M=0
 .have e7:numL l (fldG h a) (Z01 (atH h a).1) (j+1)=numL l (fldG h a) (Z01 (atH h a).1) j:=by
   rw[numL,c,numB,if_neg n0];rw[c]at ng;exact Zkh oq ng
  rw[<- ng]at c;unfold noL;rw[e7];exact sF [] [] (Ftb 41 (Ld ((j:Int)<(↑(Z01 (atH h a).1).length:Int))) (Fek 42 idv (Z01 (atH h a).1) (↑j) j (Fmq 47 wdv (numL l (fldG h a) (Z01 (atH h a).1) j) ((Z01 (atH h a).1).getD j M) (Ffb 48 ((numL l (fldG h a) (Z01 (atH h a).1) j).getD ((Z01 (atH h a).1).getD j M).toNat M != 0) (Fx 63 j Fz)))))
 .have cv:=cv.resolve_left c;have e7:numL l (fldG h a) (Z01 (atH h a).1) (j+1)=(numL l (fldG h a) (Z01 (atH h a).1) j).set ((Z01 (atH h a).1).getD j M).toNat (mpV l ((numL l (fldG h a) (Z01 (atH h a).1) j).getD ((Z01 (atH h a).1).getD j M).toNat M)+1):=by
   rw[numL,ng,numB,if_pos cv,mpV,if_pos cv]
  have vr:0<=mpV l ((numL l (fldG h a) (Z01 (atH h a).1) j).getD ((Z01 (atH h a).1).getD j M).toNat M)/\mpV l ((numL l (fldG h a) (Z01 (atH h a).1) j).getD ((Z01 (atH h a).1).getD j M).toNat M)+1<=16384:=by
   rw[ng,mpV,if_pos cv];rw[numB,if_pos cv]at nr;omega
  rw[<- ng]at c cv;unfold noL;rw[e7];exact sF [] [] (Fh 10062 [.els (Lb wdv ((numL l (fldG h a) (Z01 (atH h a).1) j).set ((Z01 (atH h a).1).getD j M).toNat (mpV l ((numL l (fldG h a) (Z01 (atH h a).1) j).getD ((Z01 (atH h a).1).getD j M).toNat M)+1)))] (Ftb 41 (Ld ((j:Int)<(↑(Z01 (atH h a).1).length:Int))) (Fek 42 idv (Z01 (atH h a).1) (↑j) j (Fmq 47 wdv (numL l (fldG h a) (Z01 (atH h a).1) j) ((Z01 (atH h a).1).getD j M) (Ftb 48 ((numL l (fldG h a) (Z01 (atH h a).1) j).getD ((Z01 (atH h a).1).getD j M).toNat M != 0) (Fmq 58 wdv (numL l (fldG h a) (Z01 (atH h a).1) j) ((Z01 (atH h a).1).getD j M) (Fi 60 (mpV l ((numL l (fldG h a) (Z01 (atH h a).1) j).getD ((Z01 (atH h a).1).getD j M).toNat M)+1) (Fv 61 (mpV l ((numL l (fldG h a) (Z01 (atH h a).1) j).getD ((Z01 (atH h a).1).getD j M).toNat M)+1) (Fa (by(simp only[Lm];omega):0<=(Z01 (atH h a).1).getD j M/\((Z01 (atH h a).1).getD j M).toNat<(Lb wdv (numL l (fldG h a) (Z01 (atH h a).1) j)).length) (Fa (by(simp only[Lm];omega):((Z01 (atH h a).1).getD j M).toNat<(Lb wdv (numL l (fldG h a) (Z01 (atH h a).1) j)).length) (Fa (ms:(Lb wdv (numL l (fldG h a) (Z01 (atH h a).1) j)).set ((Z01 (atH h a).1).getD j M).toNat [du64 (mpV l ((numL l (fldG h a) (Z01 (atH h a).1) j).getD ((Z01 (atH h a).1).getD j M).toNat M)+1)]=Lb wdv ((numL l (fldG h a) (Z01 (atH h a).1) j).set ((Z01 (atH h a).1).getD j M).toNat (mpV l ((numL l (fldG h a) (Z01 (atH h a).1) j).getD ((Z01 (atH h a).1).getD j M).toNat M)+1))) (Fx 63 j Fz))))))))))))
omit hp ha cl hl n0 in
theorem Zpn:CP (rndF f60 0) (noL h all l a (Z01 (atH h a).1).length).st (.ext 0) (Tg.st ⟨tm 67 [(6,.pt 16006 0 0),(7,int 0),(8,.pt 24008 0 0),(10,.ow 41030)],[(41030,.arr 35 1 ((Z2r h l a).fs.map wdv)),(24008,.box 52 [int (atH h a).1.K,int (atH h a).1.length,u32 (atH h a).1.map]),(16006,.box 54 [int 0,int 0,u32 0,.d (.sl 0 [])]),(0,.box 105 [Z02 all,.pt 1 0 99999,.ow 2]),(1,.mp l),(2,.arr 35 1 (l.map wdv))],8⟩):=by
 unfold noL Z2r;exact sF [] [] (Ffb 41 (Ld ((↑(Z01 (atH h a).1).length:Int)<(↑(Z01 (atH h a).1).length:Int))) Fz)
def ZoH  := Z0b (S:=λj=>(noL h all l a j).st) (Z01 (atH h a).1).length (by kernel_rfl) (λj hj=>Zni h all l a hp ha cl hl n0 j hj) (Zpn h all l a)
theorem Zp9(hw:WOk h.W):BP 60 [.pt 0 0 0,h.av,u64 a] (seaP all l) (.tu [.ag [int (atH h a).1.K,int (atH h a).1.length,u32 (atH h a).1.map,Z02 (Z2r h l a).fs],int 0]) (seaP all l):=by
 obtain⟨f1,f2,f3,f4,f5,f6,f7,f8,f9,f10⟩:=Z3c hp ha;have gm:=Z3u hw a;have po:=Z07 hp;exact borF [0,1,2] [] func60 [] (Fc 16 (@Z6y h a aa oq) (Ffb 20 ((atH h a).2 != 0) (Fv 27 (a+1) (Fc 30 (@ZlO h a aa aa) (Fc 38 (@Z3Y ((atH h a).1) aa) (Fl 39 idv (Z01 (atH h a).1) (Fu (@ZoH h all l a aa aa aa aa aa) Fz)))))))
end
def Z1K(l:List Int)(r:Int):Int:=numB l r-1
structure GraphG where
 roots:List Int
 nodes:List NodeG
def ZhL(h:Heap)(l roots:List Int):GraphG:=⟨roots.map (Z1K l),l.map (Z2r h l)⟩
def ofF(h:Heap)(roots:List Int):GraphG×Int:=if(Z0v h roots).2=0 then(ZhL h (Z0v h roots).1 roots,0)else(⟨[],[]⟩,(Z0v h roots).2)
def ZeZ{α β:Type}[Inhabited α](f:α->β){l:List α}{i:Nat}(hi:i<l.length):(l.take (i+1)).map f=(l.take i).map f++[f (l.getD i M)]:=by
 rw[List.take_succ,Ly,Lh hi,Le,Lh hi];rfl
def ogB(h:Heap)(l rs:List Int)(ns:List NodeG):List (Nat×Blk):=[(32008,.box 42 [.ow 33008,.ow 34008]),(34008,.arr 54 4 (ns.map NodeG.dv)),(33008,.arr 3 1 (rs.map idv)),(19020,.arr 35 1 (l.map wdv)),(18020,.mp l),(17020,.box 105 [Z02 (Z04 h).1,.pt 18020 0 99999,.ow 19020]),(8004,.box 42 [.ow 9004,.ow 10004]),(10004,.arr 54 4 []),(9004,.arr 3 1 []),(8002,.box 28 [int h.C.pw,int h.C.pg,.d (.sl 1 (h.W.map wdv)),.d (.sl 4 (h.P.map Page.dv)),int h.S,int h.B])]
def ogL(h:Heap)(l roots:List Int)(i:Nat):Tg:=⟨tm 79 [(2,.pt 8002 0 0),(4,.pt 8004 0 0),(5,int 0),(6,.pt 17020 0 0),(8,.pt 32008 0 0),(27,Z02 roots),(28,int roots.length),(29,int i)],ogB h l ((roots.take i).map (Z1K l)) [],6⟩
def onL(h:Heap)(l roots:List Int)(k:Nat):Tg:=⟨tm 79 [(2,.pt 8002 0 0),(4,.pt 8004 0 0),(5,int 0),(6,.pt 17020 0 0),(8,.pt 32008 0 0),(54,.ow 19020),(55,int l.length),(56,int k)],ogB h l (roots.map (Z1K l)) ((l.take k).map (Z2r h l)),8⟩
section
variable (h:Heap) (l roots:List Int) (O:OrdL h roots l) (hw:WOk h.W) (hl:roots.length<=1000)
include O hw hl
omit hw in
theorem ZnL(i:Nat)(hi:i<roots.length):CP (rndF f20 0) (ogL h l roots i).st .nrm (ogL h l roots (i+1)).st:=by
 have ll:=O.len;have e0:(roots.take i).length=i:=by rw[Lp];omega
 have e7:=ZeZ (Z1K l) hi;by_cases c:roots.getD i M∈l
 .have e8:Z1K l (roots.getD i M)=mpV l (roots.getD i M):=by rw[Z1K,numB,if_pos c,mpV,if_pos c];omega
  unfold ogL ogB;rw[e7,e8];have Q0 {h_ c_ p_} (r_:Fq h_ c_ p_):=Ftb 30 (Ld ((i:Int)<(roots.length:Int))) (Fek 31 wdv roots (↑i) i r_);rcases bb (!mpC l (roots.getD i M))with hc0 | hc0<;>have hc0p:=hc0<;>simp only[bs]at hc0p
  .exact sF [(88048,33008)] (fO 10) (Fh 48 [.els (Lb idv (Lb (Z1K l) (Lj i roots)++[(-1:Int)]))] (Q0 (Ft 43 hc0 (Fs 47 (Lb idv [(-1:Int)]) (Fa (by(simp[mpC, *];omega):(Lb idv (Lb (Z1K l) (Lj i roots))).length+(Lb idv [(-1:Int)]).length<=2^30) (Fa (by simp[mpC,LH,LF,LG,Ly,wdv,idv]:Lb idv (Lb (Z1K l) (Lj i roots))++Lb idv [(-1:Int)]=Lb idv (Lb (Z1K l) (Lj i roots)++[(-1:Int)])) (Fx 50 i (Fr (3:Int) (Fa (by refine congrArg _ ?_;grind[mpC]:Lb idv (Lb (Z1K l) (Lj i roots)++[(-1:Int)])=Lb idv (Lb (Z1K l) (Lj i roots)++[mpV l (roots.getD i M)])) Fz)))))))))
  .exact sF [(80048,33008)] [] (Fh 48 [.els (Lb idv (Lb (Z1K l) (Lj i roots)++[mpV l (roots.getD i M)]))] (Q0 (Ff 43 hc0 (Fs 47 (Lb idv [mpV l (roots.getD i M)]) (Fa (by(simp[mpC, *];omega):(Lb idv (Lb (Z1K l) (Lj i roots))).length+(Lb idv [mpV l (roots.getD i M)]).length<=2^30) (Fa (by simp[mpC,LH,LF,LG,Ly,wdv,idv]:Lb idv (Lb (Z1K l) (Lj i roots))++Lb idv [mpV l (roots.getD i M)]=Lb idv (Lb (Z1K l) (Lj i roots)++[mpV l (roots.getD i M)])) (Fx 50 i Fz)))))))
 .have e8:Z1K l (roots.getD i M)=-1:=by rw[Z1K,numB,if_neg c];rfl
  unfold ogL ogB;rw[e7,e8];have Q1 {h_ c_ p_} (r_:Fq h_ c_ p_):=Ftb 30 (Ld ((i:Int)<(roots.length:Int))) (Fek 31 wdv roots (↑i) i r_);rcases bb (!mpC l (roots.getD i M))with hc0 | hc0<;>have hc0p:=hc0<;>simp only[bs]at hc0p
  .exact sF [(88048,33008)] [] (Fh 48 [.els (Lb idv (Lb (Z1K l) (Lj i roots)++[(-1:Int)]))] (Q1 (Ft 43 hc0 (Fs 47 (Lb idv [(-1:Int)]) (Fa (by(simp[mpC, *];omega):(Lb idv (Lb (Z1K l) (Lj i roots))).length+(Lb idv [(-1:Int)]).length<=2^30) (Fa (by simp[mpC,LH,LF,LG,Ly,wdv,idv]:Lb idv (Lb (Z1K l) (Lj i roots))++Lb idv [(-1:Int)]=Lb idv (Lb (Z1K l) (Lj i roots)++[(-1:Int)])) (Fx 50 i Fz)))))))
  .exact sF [(80048,33008)] (fO 10) (Fh 48 [.els (Lb idv (Lb (Z1K l) (Lj i roots)++[mpV l (roots.getD i M)]))] (Q1 (Ff 43 hc0 (Fs 47 (Lb idv [mpV l (roots.getD i M)]) (Fa (by(simp[mpC, *];omega):(Lb idv (Lb (Z1K l) (Lj i roots))).length+(Lb idv [mpV l (roots.getD i M)]).length<=2^30) (Fa (by simp[mpC,LH,LF,LG,Ly,wdv,idv]:Lb idv (Lb (Z1K l) (Lj i roots))++Lb idv [mpV l (roots.getD i M)]=Lb idv (Lb (Z1K l) (Lj i roots)++[mpV l (roots.getD i M)])) (Fx 50 i (Fr (3:Int) (Fa (by refine congrArg _ ?_;grind[mpC]:Lb idv (Lb (Z1K l) (Lj i roots)++[mpV l (roots.getD i M)])=Lb idv (Lb (Z1K l) (Lj i roots)++[(-1:Int)])) Fz)))))))))
omit O hw hl in
theorem Zpp:CP (rndF f20 0) (ogL h l roots roots.length).st (.ext 0) (Tg.st ⟨tm 79 [(2,.pt 8002 0 0),(4,.pt 8004 0 0),(5,int 0),(6,.pt 17020 0 0),(8,.pt 32008 0 0)],ogB h l (roots.map (Z1K l)) [],6⟩):=by
 have e:roots.take roots.length=roots:=L5;unfold ogL ogB;rw[e];exact sF [] [] (Ffb 30 (Ld ((roots.length:Int)<(roots.length:Int))) Fz)
theorem ZoE:CP (blkF f20 0) (Tg.st ⟨tm 79 [(2,.pt 8002 0 0),(4,.pt 8004 0 0),(5,int 0),(6,.pt 17020 0 0),(8,.pt 32008 0 0),(27,Z02 roots),(28,int roots.length),(29,int 0)],[(32008,.box 42 [.ow 33008,.ow 34008]),(34008,.arr 54 4 []),(33008,.arr 3 1 []),(19020,.arr 35 1 (l.map wdv)),(18020,.mp l),(17020,.box 105 [Z02 (Z04 h).1,.pt 18020 0 99999,.ow 19020]),(8004,.box 42 [.ow 9004,.ow 10004]),(10004,.arr 54 4 []),(9004,.arr 3 1 []),(8002,.box 28 [int h.C.pw,int h.C.pg,.d (.sl 1 (h.W.map wdv)),.d (.sl 4 (h.P.map Page.dv)),int h.S,int h.B])],6⟩) .nrm (Tg.st ⟨tm 79 [(2,.pt 8002 0 0),(4,.pt 8004 0 0),(5,int 0),(6,.pt 17020 0 0),(8,.pt 32008 0 0)],ogB h l (roots.map (Z1K l)) [],6⟩) :=
 Z0b (S:=λi=>(ogL h l roots i).st) roots.length kr (λi hi=>ZnL h l roots O hl i hi) (Zpp h l roots)
theorem Zob(k:Nat)(hk:k<l.length):CP (rndF f20 2) (onL h l roots k).st .nrm (onL h l roots (k+1)).st:=by
 have ll:=O.len;have hp:=O.p;have n0:=O.n0;have am:=getD_mem_iff.2 ⟨k,hk,rfl⟩;have ha:=O.el _ am;have cl:=O.cl _ am;have ox:=Z1f h _ ha;have e0:(l.take k).length=k:=by rw[Lp];omega
 have e7:=ZeZ (Z2r h l) hk;unfold onL ogB;rw[e7];let y0:=l.getD k M;exact sF [(96075,34008)] [] (Fh 75 [.els (Lb NodeG.dv (Lb (Z2r h l) (Lj k l)++[NodeG.mk (atH h y0).1 (Z2r h l y0).fs]))] (Ftb 57 (Ld ((k:Int)<(l.length:Int))) (Fm 59 wdv l (↑k) k (Fbq 64 [17020,18020,19020] (@Zp9 h ((Z04 h).1) l y0 aa aa aa aa aa aa) (Fs 74 (Lb NodeG.dv [NodeG.mk (atH h y0).1 (Z2r h l y0).fs]) (Fa (by(simp[*];omega):(Lb NodeG.dv (Lb (Z2r h l) (Lj k l))).length+(Lb NodeG.dv [NodeG.mk (atH h y0).1 (Z2r h l y0).fs]).length<=2^30) (Fa (ms:Lb NodeG.dv (Lb (Z2r h l) (Lj k l))++Lb NodeG.dv [NodeG.mk (atH h y0).1 (Z2r h l y0).fs]=Lb NodeG.dv (Lb (Z2r h l) (Lj k l)++[NodeG.mk (atH h y0).1 (Z2r h l y0).fs])) (Fx 77 k Fz))))))))
omit O hw hl in
theorem Zpy:CP (rndF f20 2) (onL h l roots l.length).st (.ext 2) (Tg.st ⟨tm 79 [(4,.pt 8004 0 0),(5,int 0),(8,.pt 32008 0 0)],ogB h l (roots.map (Z1K l)) (l.map (Z2r h l)),8⟩):=by
 have e:l.take l.length=l:=L5;unfold onL ogB;rw[e];exact sF [] [] (Ffb 57 (Ld ((l.length:Int)<(l.length:Int))) Fz)
def ZoW  := Z0b (S:=λk=>(onL h l roots k).st) l.length (by kernel_rfl) (λk hk=>Zob h l roots O hw hl k hk) (Zpy h l roots)
end
section
variable (h:Heap) (roots:List Int) (hw:WOk h.W) (hl:roots.length<=1000) (hr:ULe roots)
include hw hl hr
theorem Zgo(e:(Z0v h roots).2≠0):GP 20 [h.av,Z02 roots] Lc (.tu [.ag [Z0x [],.d (.sl 4 (([]:List NodeG).map NodeG.dv))],int (Z0v h roots).2]) []:=by
 exact gF [] func20 [] (Fh 4 [.gh 3 1,.int 0,.gh 54 4,.int 1] (Fbq 20 [] (@Zed h roots aa aa aa aa) (Ftb 24 ((Z0v h roots).2 != 0) (Fnl (Fnl Fz)))))
theorem Zdg(e:(Z0v h roots).2=0):GP 20 [h.av,Z02 roots] Lc (.tu [.ag [Z0x (roots.map (Z1K (Z0v h roots).1)),.d (.sl 4 (((Z0v h roots).1.map (Z2r h (Z0v h roots).1)).map NodeG.dv))],int 0]) []:=by
 have ol:=Zc5 h roots hw hl hr e;exact gF [] func20 [] (Fh 4 [.gh 3 1,.int 0,.gh 54 4,.int 1] (Fh 8 [.gh 3 1,.int 0,.gh 54 4,.int 1] (Fbr 20 [] (@ZgW h roots aa aa aa aa) (Fl 28 wdv roots (Fu (@ZoE h ((Z0v h roots).1) roots aa aa aa) (Fl 55 wdv (Z0v h roots).1 (Fu (@ZoW h ((Z0v h roots).1) roots aa aa aa) Fz)))))))
end
def ZiQ{h:Heap}{roots:List Int}{k:Nat}(I:OrdI h roots k)(e:(ordG h roots k).length<=k):∀ f i,i<=k->k<i+f->ordT h roots f i=k
 | 0,i,h1,h2=>by omega
 | f+1,i,h1,h2=>by
  unfold ordT;by_cases q:i=k
  .rw[q,if_pos (.inl e)]
  .obtain⟨l1,l2⟩:=I.lo i oq;rw[if_neg (by rw[l2];intro c;rcases c with c | c;omega;cases c)];exact ZiQ I e f (i+1) oq oq
def OrdI.le{h:Heap}{roots:List Int}{k:Nat}(I:OrdI h roots k):k<=(ordG h roots k).length:=by
 cases k with
 | zero=>omega
 | succ k =>
  obtain⟨l1,_⟩:=I.lo k oq;have:=(Z6R h roots k 1).2 k l1;omega
def Zcy{h:Heap}{roots:List Int}{k:Nat}(hp:Z03 h=La)(ho:(Z04 h).2=0)(hb:Z3P h roots=Lc)(I:OrdI h roots k)(e:(ordG h roots k).length<=k):Z0v h roots=(ordG h roots k,0):=by
 have l1:=I.len (Lg k);have l2:=I.le;have z:ordZ h roots=k:=ZiQ I e _ _ (L6 k) oq;unfold Z0v;rw[if_pos hp,if_pos ho,z,if_neg];rintro(q | q)
 .rw[hb]at q;cases q
 .omega
section
variable {h:Heap} {T:Nat->List Int} (g:Gd h T)
include g
theorem Gd.noBad{l:List Int}(hl:∀ r∈l,r=0\/r∈(Z04 h).1):((Li l.length).find? (rfsB l (Z04 h).1)).isSome=Lc:=by
 cases e:(Li l.length).find? (rfsB l (Z04 h).1)with
 | none=>rfl
 | some j =>
  obtain⟨h1,h2,_⟩:=Lx.1 e;have q:=of_decide_eq_true h1;rcases hl _ (getD_mem_iff.2 ⟨j,Ln.1 h2,rfl⟩)with c | c
  .exact absurd c q.1
  .exact absurd c q.2
theorem Gd.ordI{s:List Int}(hs:∀ r∈s,r=0\/r∈(Z04 h).1):∀ k,(∀ j,j<k->j<(ordG h s j).length)->OrdI h s k
 | 0,_=>OrdI.zero (g.noBad hs)
 | k+1,hk=>by
  have I:=Gd.ordI hs k (λj hj=>hk j oq);exact I.succ (hk k oq) (g.noBad (g.refsOb ((I.el k (Lg k)).2 _ (getD_mem_iff.2 ⟨k,hk k oq,rfl⟩))))
end
def Tq(l m:List Int)(v x:Int):Prop:=(v=0/\x=0)\/∃ i,i<l.length/\i<m.length/\v=l.getD i M/\x=m.getD i M
def Zj5{l:List Int}(h:l.Nodup){i j:Nat}(hi:i<l.length)(hj:j<l.length)(e:l.getD i M=l.getD j M):i=j:=by
 rw[Le,Le,Lh hi,Lh hj]at e;exact(List.getElem_inj h).1 e
def Zmr{l:List Int}(h:l.Nodup){i:Nat}(hi:i<l.length):l.idxOf (l.getD i M)=i:=by
 have m:=getD_mem_iff.2 ⟨i,hi,(rfl:l.getD i M=_)⟩;obtain⟨h1,h2,_⟩:=Znp m;exact Zj5 h h1 hi h2
def numT{l m:List Int}(hl:l.Nodup)(hm:m.Nodup)(l0:(0:Int)∉l)(m0:(0:Int)∉m){v x:Int}(t:Tq l m v x):numB m x=numB l v:=by
 rcases t with⟨rfl,rfl⟩ | ⟨i,h1,h2,rfl,rfl⟩
 .rw[numB,numB,if_neg l0,if_neg m0]
 .rw[numB,numB,if_pos (getD_mem_iff.2 ⟨i,h1,rfl⟩),if_pos (getD_mem_iff.2 ⟨i,h2,rfl⟩),Zmr hl h1,Zmr hm h2]
def Z7O{l:List Int}(hl:l.Nodup){i n:Nat}(hi:i<l.length):l.getD i M∈l.take n↔i<n:=by
 constructor
 .intro q;obtain⟨j,hj,e⟩:=getD_mem_iff.1 q;rw[Lp]at hj;have:(l.take n).getD j M=l.getD j M:=by
   simp only[Le,LM];rw[if_pos oq]
  rw[this]at e;have:=Zj5 hl oq hi e;omega
 .intro q;refine getD_mem_iff.2 ⟨i,by rw[Lp];omega, ?_⟩;simp only[Le,LM];rw[if_pos q]
section
variable {l m:List Int} (hl:l.Nodup) (hm:m.Nodup) (le:l.length=m.length) (l0:(0:Int)∉l) (m0:(0:Int)∉m)
include hl hm le l0 m0
theorem Zpt{n:Nat}(hn:n<=l.length){v x:Int}(t:Tq l m v x)(p:addO (l.take n) v <+: l):∃ n',n'<=l.length/\addO (l.take n) v=l.take n'/\addO (m.take n) x=m.take n':=by
 rcases t with⟨rfl,rfl⟩ | ⟨i,h1,h2,rfl,rfl⟩
 .exact⟨n,hn,by rw[addO,if_pos (.inl rfl)],by rw[addO,if_pos (.inl rfl)]⟩
 .have v0:l.getD i M≠0:=λq=>l0 (q▸getD_mem_iff.2 ⟨i,h1,rfl⟩);have x0:m.getD i M≠0:=λq=>m0 (q▸getD_mem_iff.2 ⟨i,h2,rfl⟩);by_cases c:i<n
  .exact⟨n,hn,by rw[addO,if_pos (.inr ((Z7O hl h1).2 c))],by rw[addO,if_pos (.inr ((Z7O hm h2).2 c))]⟩
  .have e1:addO (l.take n) (l.getD i M)=l.take n++[l.getD i M]:=by rw[addO,if_neg (λq=>q.elim v0 λq=>c ((Z7O hl h1).1 q))]
   have e2:addO (m.take n) (m.getD i M)=m.take n++[m.getD i M]:=by rw[addO,if_neg (λq=>q.elim x0 λq=>c ((Z7O hm h2).1 q))]
   rw[e1]at p ⊢;rw[e2];have tl:(l.take n).length=n:=by rw[Lp];omega
   have pl:=p.length_le;rw[LB,tl,L3]at pl;obtain⟨r,hr⟩:=p;have at':l.getD n M=l.getD i M:=by
    have:l[n]? = Ll (l.getD i M):=by
     conv=>lhs;rw[<- hr]
     rw[Xa,L1 oq,tl,Xi];rfl
    rw[Le,this];rfl
   have en:=Zj5 hl oq h1 at';subst en;exact⟨n+1,by omega,by rw[<- Z4O h1],by rw[<- Z4O h2]⟩
theorem Zn7{A A' rf rf':List Int}(hr:rf.length=rf'.length)(ht:∀ i,i<rf.length->Tq l m (rf.getD i M) (rf'.getD i M))(hA:∃ n,n<=l.length/\A=l.take n/\A'=m.take n):∀ k,k<=rf.length->addN A rf k <+: l->∃ n,n<=l.length/\addN A rf k=l.take n/\addN A' rf' k=m.take n
 | 0,_,_=>hA
 | k+1,hk,p=>by
  have pk:addN A rf k <+: addN A rf (k+1):=by
   rw[addN,addO];split
   .exact List.prefix_refl _
   .exact List.prefix_append _ _
  obtain⟨n,h1,h2,h3⟩:=Zn7 hr ht hA k oq (pk.trans p);rw[addN,addN,h3];rw[addN]at p;rw[h2]at p ⊢;exact Zpt hl hm le l0 m0 h1 (ht k oq) p
end
def Zfu(A rf:List Int):∀ n,A <+: addN A rf n
 | 0=>List.prefix_refl _
 | n+1=>by
  refine(Zfu A rf n).trans ?_;rw[addN,addO];split
  .exact List.prefix_refl _
  .exact List.prefix_append _ _
def Z6c(h:Heap)(s:List Int)(i:Nat):∀ d,ordG h s i <+: ordG h s (i+d)
 | 0=>List.prefix_refl _
 | d+1=>(Z6c h s i d).trans (Zfu _ _ _)
def ZeM{l fs ps:List Int}(hn:ps.Nodup)(hp:∀ p∈ps,0<=p/\p<fs.length){i:Nat}(hi:i<fs.length):∀ n,n<=ps.length->(numL l fs ps n).getD i M=if(i:Int)∈ps.take n then numB l (fs.getD i M)else fs.getD i M
 | 0,_=>by rw[if_neg pq];rfl
 | n+1,h=>by
  have ih:=ZeM (l:=l) hn hp hi n oq;have ll:=Z4x l fs ps n;have pm:=hp _ (getD_mem_iff.2 ⟨n,by omega,rfl⟩);have tk:(i:Int)∈ps.take (n+1)↔(i:Int)∈ps.take n\/(i:Int)=ps.getD n M:=by
   rw[Z4O oq];simp
  rw[numL];by_cases c:(i:Int)=ps.getD n M
  .rw[if_pos (tk.2 (.inr c)),<- c,L0,Le,List.getElem?_set_self oq];rfl
  .have e:((numL l fs ps n).set (ps.getD n M).toNat (numB l (fs.getD (ps.getD n M).toNat M))).getD i M=(numL l fs ps n).getD i M:=by
    simp only[Le];rw[Xb (by simp only[Le]at c pm;omega)]
   rw[e,ih];by_cases q:(i:Int)∈ps.take n
   .rw[if_pos q,if_pos (tk.2 (.inl q))]
   .rw[if_neg q,if_neg (λz=>(tk.1 z).elim q c)]
def getD_lt{l:List Int}{i:Nat}(h:i<l.length):l.getD i M=l[i]:=by
 rw[Le,Lh h];rfl
def getD_take{l:List Int}{i n:Nat}(h:i<n):(l.take n).getD i M=l.getD i M:=by
 simp only[Le,LM];rw[if_pos h]
def Zcu(f:Int->Int){l:List Int}{j:Nat}(h:j<l.length):(l.map f).getD j M=f (l.getD j M):=by
 simp only[Le,LL,Lh h,LR,Lv]
def Zfg{h:Heap}(hp:Z03 h=La){a:Int}(ha:a∈(Z04 h).1){j:Nat}(hj:(j:Int)<(atH h a).1.length):(fldG h a).getD j M=(loadA h.W (a+1+j)).1:=by
 obtain⟨f1,_,_,_,f5,_,_,f8,_,_⟩:=Z3c hp ha;rw[f8];rw[loadA,if_pos oq,getD_take oq];simp only[Le,L2];rw[show(a+1-4096).toNat+j=(a+1+(j:Int)-4096).toNat by omega];rfl
structure Kept8 (h h':Heap) (s s' l m:List Int):Prop where
 o:Z0v h s=(l,0)
 o':Z0v h' s'=(m,0)
 L:OrdL h s l
 L':OrdL h' s' m
 len:l.length=m.length
 sl:s'.length=s.length
 st:∀ i,i<s.length->Tq l m (s.getD i M) (s'.getD i M)
 hd:∀ i,i<l.length->(atH h' (m.getD i M)).1=(atH h (l.getD i M)).1
 fd:∀ i,i<l.length->∀ j:Nat,(j:Int)<(atH h (l.getD i M)).1.length->if Z0c (atH h (l.getD i M)).1 j=La then Tq l m ((fldG h (l.getD i M)).getD j M) ((fldG h' (m.getD i M)).getD j M)else(fldG h' (m.getD i M)).getD j M=(fldG h (l.getD i M)).getD j M
section
variable {h h':Heap} {s s' l m:List Int} (K:Kept8 h h' s s' l m)
include K
theorem Kept8.node{i:Nat}(hi:i<l.length):Z2r h' m (m.getD i M)=Z2r h l (l.getD i M):=by
 have le:=K.len;have oa:=K.L.el _ (getD_mem_iff.2 ⟨i,hi,rfl⟩);have om:=K.L'.el _ (getD_mem_iff.2 ⟨i,by omega,rfl⟩);obtain⟨_,_,_,_,_,_,f7,_,f9,f10⟩:=Z3c K.L.p oa;obtain⟨_,_,_,_,_,_,q7,_,q9,q10⟩:=Z3c K.L'.p om;have hd:=K.hd i hi;have fd:=K.fd i hi;unfold Z2r;rw[hd]at q7 q9 q10 ⊢;generalize l.getD i M=a at *;generalize m.getD i M=q at *;have hp:∀ p∈Z01 (atH h a).1,0<=p/\p<(fldG h a).length:=λp hp=>by have:=f10 p hp;omega
 have hp':∀ p∈Z01 (atH h a).1,0<=p/\p<(fldG h' q).length:=λp hp=>by have:=f10 p hp;omega
 have e:numL m (fldG h' q) (Z01 (atH h a).1) (Z01 (atH h a).1).length=numL l (fldG h a) (Z01 (atH h a).1) (Z01 (atH h a).1).length:=by
  refine LS (by rw[Z4x,Z4x];omega) λj h1 h2=>?_;rw[<- getD_lt h1,<- getD_lt h2];rw[Z4x]at h1 h2;rw[ZeM f9 hp' h1 _ (Lg _),ZeM f9 hp h2 _ (Lg _),L5];have:=fd j oq;by_cases c:(j:Int)∈Z01 (atH h a).1
  .rw[if_pos c,if_pos c];rw[if_pos (Z3a _ _ c)]at this;exact numT K.L.nd K.L'.nd K.L.n0 K.L'.n0 this
  .rw[if_neg c,if_neg c];rw[if_neg (λp=>c (Z4C oq oq p))]at this;exact this
 rw[e]
theorem Kept8.graph:ofF h' s'=ofF h s:=by
 have le:=K.len;have sl:=K.sl;unfold ofF;rw[K.o,K.o',if_pos rfl,if_pos rfl];unfold ZhL;have e1:s'.map (Z1K m)=s.map (Z1K l):=by
  refine LS (by rw[Lm,Lm];exact sl) λi h1 h2=>?_;rw[Lm]at h1 h2;rw[LV,LV,<- getD_lt h1,<- getD_lt h2];unfold Z1K;rw[numT K.L.nd K.L'.nd K.L.n0 K.L'.n0 (K.st i h2)]
 have e2:m.map (Z2r h' m)=l.map (Z2r h l):=by
  refine LS (by rw[Lm,Lm];exact le.symm) λi h1 h2=>?_;rw[Lm]at h1 h2;rw[LV,LV,<- getD_lt h1,<- getD_lt h2];exact K.node h2
 rw[e1,e2]
end
def ZjF{B:Int}(hB:0<=B){h:Heap}{T:Nat->List Int}(g:Gd h T)(mv:MV h){s k0:List Int}(hw:WOk h.W)(hb:∀ p∈h.P,p.N<=B)(hs:RtOb h T s)(hk:RtOb h T k0)(e:(collectF h s k0).2.2.2.2=0) :
  Kept8 h (collectF h s k0).1 s (collectF h s k0).2.1 (Z0v h s).1 (cW2 h s).Q:=by
 obtain⟨er,sw⟩:=SW.roots g mv hs hw;have e1:(rootsF (beginW h) s).2.2=0:=by rw[er]
 have e2:=(sw.all g mv).1;have pr1:=(Z7a hB hw hb e).p1;obtain⟨tq,ce,eh⟩:=ZiL hB g hw hb e1 e2 (k:=k0);have e7:collectF h s k0=(endH (cW5 h s k0),(rootsF (beginW h) s).2.1,Z3U (cW2 h s) k0 k0.length,(cW5 h s k0).rep,0):=by rw[collectF,if_pos g.p,if_pos ⟨g.refers hs,g.refers hk⟩,if_pos e1,if_pos e2]
 rw[e7]at pr1 ⊢;simp only at pr1 ⊢;rw[eh]at pr1 ⊢;have gd:=ce.good pr1;generalize hH:(⟨(cW2 h s).heap.C,(Z16 (cW4 h s k0)).heap.W,(cW2 h s).heap.P.map (Z12 (cW2 h s).heap.S),1-(cW2 h s).heap.S,(endH (cW5 h s k0)).B⟩:Heap)=H' at *;have hHw:H'.W=(Z16 (cW4 h s k0)).heap.W:=by rw[<- hH]
 obtain⟨k,E,ro,ln,rt,rtr⟩:=Zkv g mv hs hw;have sl:(rootsF (beginW h) s).2.1.length=s.length:=by rw[er];exact Z2F _ _ _
 generalize (rootsF (beginW h) s).2.1=s' at *;have hso:∀ r∈s,r=0\/r∈(Z04 h).1:=λr hr=>(hs r hr).imp id (g.objs.2 r).2;have key:∀ i,i<=k->ordN h s i=ordG h s i/\OrdI h s i:=by
  intro i;induction i with
  | zero=>intro _;exact⟨rfl,OrdI.zero (g.noBad hso)⟩
  | succ i ih =>
   intro hi;obtain⟨i1,I⟩:=ih oq;have lo:=(E.o i oq).1;rw[i1]at lo;have mem:=(I.el i (Lg i)).2 _ (getD_mem_iff.2 ⟨i,lo,rfl⟩);refine⟨?_,I.succ lo (g.noBad (g.refsOb mem))⟩;show addN (ordN h s i) (Z62 h ((ordN h s i).getD i M)) (Z62 h ((ordN h s i).getD i M)).length=_;rw[i1,Zmb g.p mem];rfl
 obtain⟨kN,I⟩:=key k (Lg k);rw[kN]at ro ln rt;have ol:Z0v h s=(ordG h s k,0):=Zcy g.p g.objs.1 (g.noBad hso) I oq;have O:=Zev I g.p oq;rw[ol];simp only;have qn:=ro.nd;have ql:=ro.l;have q0:(0:Int)∉(cW2 h s).Q:=λc=>by
  have:=ce.i.r 0 (Lk _ c);omega
 have tq':∀ v x,Tr (cW2 h s) v x->Tq (ordG h s k) (cW2 h s).Q v x:=by
  intro v x t;rcases t with t | ⟨t1,t2,t3⟩
  .exact .inl t
  .obtain⟨i,hi,rfl⟩:=getD_mem_iff.1 (ro.s v t1 t2);exact .inr ⟨i,hi,by omega,rfl,t3.trans (ro.i i hi).2⟩
 have ob:∀ i,i<k->(ordG h s k).getD i M∈(Z04 h).1/\(cW2 h s).Q.getD i M∈(Z04 H').1/\(atH H' ((cW2 h s).Q.getD i M)).1=(atH h ((ordG h s k).getD i M)).1 /\
   ∀ j:Int,0<=j->j<(atH h ((ordG h s k).getD i M)).1.length->if Z0c (atH h ((ordG h s k).getD i M)).1 j=La then Tq (ordG h s k) (cW2 h s).Q (loadA h.W ((ordG h s k).getD i M+1+j)).1 (loadA H'.W ((cW2 h s).Q.getD i M+1+j)).1 else(loadA H'.W ((cW2 h s).Q.getD i M+1+j)).1=(loadA h.W ((ordG h s k).getD i M+1+j)).1:=by
  intro i hi;have mo:=O.el _ (getD_mem_iff.2 ⟨i,by omega,(rfl:(ordG h s k).getD i M=_)⟩);obtain⟨i0,hx0,hk0⟩:=(g.objs.2 _).1 mo;have mq:(cW2 h s).Q.getD i M∈(cW2 h s).Q:=getD_mem_iff.2 ⟨i,by omega,rfl⟩;obtain⟨t1,t2⟩:=rt.f i hi oq;obtain⟨j0,hj0⟩:=ce.where' mq;have seen:∀ z,(cW2 h s).Q.getD i M<=z->z<=(cW2 h s).Q.getD i M+hlA (cW2 h s).heap.W ((cW2 h s).Q.getD i M)->loadA H'.W z=loadA (cW2 h s).heap.W z:=λz z1 z2=>by rw[hHw];exact ce.seen mq z1 z2
  have hl:hlA (cW2 h s).heap.W ((cW2 h s).Q.getD i M)=hlA h.W ((ordG h s k).getD i M):=congrArg Header.length t1;have r0:=Z09 h.W ((ordG h s k).getD i M);have hd':hdA H'.W ((cW2 h s).Q.getD i M)=hdA h.W ((ordG h s k).getD i M):=by rw[hdA,seen _ (Int.le_refl _) oq];exact t1
  have a1:=gd.at' hj0;have a2:=g.at' hx0;refine⟨mo,(gd.objs.2 _).2 ⟨j0,hj0, ?_⟩,by rw[a1,a2];exact hd',λj j0 j1=>?_⟩
  .rw[hHw];exact(ce.start hj0).2.2 mq
  .rw[a2]at j1 ⊢;have j1:j<hlA h.W ((ordG h s k).getD i M):=j1;have f:=t2 j j0 j1;rw[seen _ oq oq];unfold FT at f;by_cases c:Z0c (hdA h.W ((ordG h s k).getD i M)) j=La
   .rw[if_pos c]at f ⊢;exact tq' _ _ f
   .rw[if_neg c]at f ⊢;exact f
 have rf:∀ i,i<k->(Z0q h ((ordG h s k).getD i M)).length=(Z0q H' ((cW2 h s).Q.getD i M)).length/\∀ j,j<(Z0q h ((ordG h s k).getD i M)).length->Tq (ordG h s k) (cW2 h s).Q ((Z0q h ((ordG h s k).getD i M)).getD j M) ((Z0q H' ((cW2 h s).Q.getD i M)).getD j M):=by
  intro i hi;obtain⟨o1,o2,o3,o4⟩:=ob i hi;unfold Z0q;rw[o3];refine⟨by rw[Lm,Lm],λj hj=>?_⟩;rw[Lm]at hj;rw[Zcu _ hj,Zcu _ hj];have pm:=getD_mem_iff.2 ⟨j,hj,(rfl:(Z01 (atH h ((ordG h s k).getD i M)).1).getD j M=_)⟩;obtain⟨_,_,_,_,_,_,_,_,_,f10⟩:=Z3c g.p o1;have pr:=f10 _ pm;have:=o4 _ pr.1 pr.2.1;rw[if_pos (Z3a _ _ pm)]at this;exact this
 have sync:∀ j,j<=k->∃ n,n<=(ordG h s k).length/\ordG h s j=(ordG h s k).take n/\ordG H' s' j=(cW2 h s).Q.take n:=by
  intro j;induction j with
  | zero =>
   intro _;have p:=Z6c h s 0 k;rw[LZ]at p;have:=Zn7 O.nd qn ql.symm O.n0 q0 (A:=[]) (A':=[]) (rf:=s) (rf':=s') sl.symm (λi hi=>tq' _ _ (rtr i hi)) ⟨0,L6 _,by simp,by simp⟩ s.length (Lg _) p;obtain⟨n,n1,n2,n3⟩:=this;exact⟨n,n1,n2,by rw[<- n3,<- sl];rfl⟩
  | succ j ih =>
   intro hj;obtain⟨n,n1,n2,n3⟩:=ih oq;obtain⟨lo,_⟩:=I.lo j oq;rw[n2,Lp]at lo;obtain⟨r1,r2⟩:=rf j oq;have p:=Z6c h s (j+1) (k-(j+1));rw[show j+1+(k-(j+1))=k by omega]at p;have e3:(ordG h s j).getD j M=(ordG h s k).getD j M:=by rw[n2,getD_take oq]
   have e4:(ordG H' s' j).getD j M=(cW2 h s).Q.getD j M:=by rw[n3,getD_take oq]
   have e5:ordG h s (j+1)=addN (ordG h s j) (Z0q h ((ordG h s k).getD j M)) (Z0q h ((ordG h s k).getD j M)).length:=by rw[<- e3];rfl
   have e6:ordG H' s' (j+1)=addN (ordG H' s' j) (Z0q H' ((cW2 h s).Q.getD j M)) (Z0q H' ((cW2 h s).Q.getD j M)).length:=by rw[<- e4];rfl
   rw[e5]at p ⊢;rw[e6,<- r1];exact Zn7 O.nd qn ql.symm O.n0 q0 r1 r2 ⟨n,n1,n2,n3⟩ _ (Lg _) p
 obtain⟨n,n1,n2,n3⟩:=sync k (Lg k);have nk:n=k:=by have:=congrArg List.length n2;rw[Lp]at this;omega
 have eq:ordG H' s' k=(cW2 h s).Q:=by rw[n3,nk,List.take_of_length_le oq]
 have hso':∀ r∈s',r=0\/r∈(Z04 H').1:=by
  intro r hr;obtain⟨i,hi,rfl⟩:=getD_mem_iff.1 hr;rcases tq' _ _ (rtr i oq)with⟨_,c⟩ | ⟨j,j1,j2,_,c⟩
  .exact .inl c
  .rw[c];exact .inr (ob j oq).2.1
 have I':=gd.ordI hso' k (λj hj=>by
  obtain⟨n,n1,n2,n3⟩:=sync j oq;obtain⟨lo,_⟩:=I.lo j oq;rw[n2,Lp]at lo;rw[n3,Lp];omega)
 have ol':Z0v H' s'=(ordG H' s' k,0):=Zcy gd.p gd.objs.1 (gd.noBad hso') I' (by rw[eq];omega);have O':=Zev I' gd.p (by rw[eq];omega);rw[eq]at ol' O';refine⟨ol,ol',O,O',ql.symm,sl,λi hi=>tq' _ _ (rtr i hi),λi hi=>(ob i oq).2.2.1,λi hi j hj=>?_⟩;obtain⟨o1,o2,o3,o4⟩:=ob i oq;rw[Zfg g.p o1 hj,Zfg gd.p o2 (by rw[o3];exact hj)];exact o4 j oq hj
def difB{α:Type}[Inhabited α][DecidableEq α](a b:List α)(i:Nat):Bool:=Ld (a.getD i M≠b.getD i M)
def Z5v{α:Type}[Inhabited α][DecidableEq α]{a b:List α}(hl:a.length=b.length)(h:(Li a.length).find? (difB a b)=Lf):a=b:=by
 refine LS hl λi h1 h2=>?_;have:=Lt.1 h i (Ln.2 h1);simp only[difB,decide_eq_true_eq,LD]at this;simpa[Le,Lh h1,Lh h2]using this
def Z5p{α:Type}[Inhabited α][DecidableEq α]{a b:List α}{i:Nat}(h:(Li a.length).find? (difB a b)=Ll i):i<a.length/\a.getD i M≠b.getD i M/\∀ j,j<i->a.getD j M=b.getD j M:=by
 obtain⟨h1,h2,h3⟩:=Lx.1 h;exact⟨Ln.1 h2,of_decide_eq_true h1,λj hj=>by simpa[difB]using h3 j hj⟩
def eqIL(a b:List Int)(i:Nat):Tg:=⟨tm 26 [(0,Z0x a),(1,Z0x b),(4,bool Lc),(12,int a.length),(13,int i)],[],4⟩
section
variable (a b:List Int) (hl:a.length=b.length) (ha:a.length<=281474976710656)
include hl ha
theorem Zfm(i:Nat)(hi:i<a.length)(e:a.getD i M=b.getD i M):CP (rndF f61 0) (eqIL a b i).st .nrm (eqIL a b (i+1)).st:=by
 exact sF [] [] (Ftb 14 (Ld ((i:Int)<(a.length:Int))) (Fek 18 idv a (↑i) i (Fek 22 idv b (↑i) i (Ffb 24 (a.getD i M != b.getD i M) (Fx 25 i Fz)))))
theorem Zk6(i:Nat)(hi:i<a.length)(e:a.getD i M≠b.getD i M):CP (rndF f61 0) (eqIL a b i).st .ret (Tg.st ⟨tm 26 [(4,bool Lc)],[],60⟩):=by
 exact sF [] [] (Ftb 14 (Ld ((i:Int)<(a.length:Int))) (Fek 18 idv a (↑i) i (Fek 22 idv b (↑i) i (Ftb 24 (a.getD i M != b.getD i M) Fz))))
omit hl ha in
theorem Zpc:CP (rndF f61 0) (eqIL a b a.length).st (.ext 0) (Tg.st ⟨tm 26 [(4,bool Lc)],[],60⟩):=by
 exact sF [] [] (Ffb 14 (Ld ((a.length:Int)<(a.length:Int))) Fz)
def ZmA(h:(Li a.length).find? (difB a b)=Lf)  := Z0b (S:=λi=>(eqIL a b i).st) a.length (by kernel_rfl) (λi hi=>Zfm a b hl ha i hi (by rw[<- Z5v hl h])) (Zpc a b)
theorem Zlm(h:((Li a.length).find? (difB a b)).isSome=La):CP (blkF f61 0) (Tg.st ⟨tm 26 [(0,Z0x a),(1,Z0x b),(4,bool Lc),(12,int a.length),(13,int 0)],[],4⟩) .ret (Tg.st ⟨tm 26 [(4,bool Lc)],[],60⟩):=by
 obtain⟨i,h⟩:=LQ.1 h;obtain⟨h1,h2,h3⟩:=Z5p h;exact Z0y (S:=λi=>(eqIL a b i).st) i kr (λj hj=>Zfm a b hl ha j oq (h3 j hj)) (Zk6 a b hl ha i h1 h2)
end
def ZpA(a b:List Int)(ha:a.length<=281474976710656)(hb:b.length<=281474976710656):GP 61 [Z0x a,Z0x b] La (bool (Ld (a=b))) []:=by
 by_cases hl:a.length=b.length
 .cases h:(Li a.length).find? (difB a b)with
  | none =>
   rw[decide_eq_true (Z5v hl h)];exact gF [] func61 [] (Fl 7 idv a (Fl 9 idv b (Ffb 10 ((a.length:Int) != (b.length:Int)) (Fl 12 idv a (Fu (@ZmA a b aa aa aa) Fz)))))
  | some i =>
   have hs:((Li a.length).find? (difB a b)).isSome=La:=by rw[h];rfl
   rw[decide_eq_false (λq=>(Z5p h).2.1 (by rw[q]))];exact gF [] func61 [] (Fl 7 idv a (Fl 9 idv b (Ffb 10 ((a.length:Int) != (b.length:Int)) (Fl 12 idv a (Fu (@Zlm a b aa aa aa) Fz)))))
 .rw[decide_eq_false (λq=>hl (by rw[q]))];exact gF [] func61 [] (Fl 7 idv a (Fl 9 idv b (Ftb 10 ((a.length:Int) != (b.length:Int)) Fz)))
def eqUL(a b:List Int)(i:Nat):Tg:=⟨tm 26 [(0,Z02 a),(1,Z02 b),(4,bool Lc),(12,int a.length),(13,int i)],[],4⟩
section
variable (a b:List Int) (hl:a.length=b.length) (ha:a.length<=281474976710656)
include hl ha
theorem ZfO(i:Nat)(hi:i<a.length)(e:a.getD i M=b.getD i M):CP (rndF f64 0) (eqUL a b i).st .nrm (eqUL a b (i+1)).st:=by
 exact sF [] [] (Ftb 14 (Ld ((i:Int)<(a.length:Int))) (Fek 18 wdv a (↑i) i (Fek 22 wdv b (↑i) i (Ffb 24 (a.getD i M != b.getD i M) (Fx 25 i Fz)))))
theorem Zku(i:Nat)(hi:i<a.length)(e:a.getD i M≠b.getD i M):CP (rndF f64 0) (eqUL a b i).st .ret (Tg.st ⟨tm 26 [(4,bool Lc)],[],60⟩):=by
 exact sF [] [] (Ftb 14 (Ld ((i:Int)<(a.length:Int))) (Fek 18 wdv a (↑i) i (Fek 22 wdv b (↑i) i (Ftb 24 (a.getD i M != b.getD i M) Fz))))
omit hl ha in
theorem Zp4:CP (rndF f64 0) (eqUL a b a.length).st (.ext 0) (Tg.st ⟨tm 26 [(4,bool Lc)],[],60⟩):=by
 exact sF [] [] (Ffb 14 (Ld ((a.length:Int)<(a.length:Int))) Fz)
def Zn0(h:(Li a.length).find? (difB a b)=Lf)  := Z0b (S:=λi=>(eqUL a b i).st) a.length (by kernel_rfl) (λi hi=>ZfO a b hl ha i hi (by rw[<- Z5v hl h])) (Zp4 a b)
theorem Zlc(h:((Li a.length).find? (difB a b)).isSome=La):CP (blkF f64 0) (Tg.st ⟨tm 26 [(0,Z02 a),(1,Z02 b),(4,bool Lc),(12,int a.length),(13,int 0)],[],4⟩) .ret (Tg.st ⟨tm 26 [(4,bool Lc)],[],60⟩):=by
 obtain⟨i,h⟩:=LQ.1 h;obtain⟨h1,h2,h3⟩:=Z5p h;exact Z0y (S:=λi=>(eqUL a b i).st) i kr (λj hj=>ZfO a b hl ha j oq (h3 j hj)) (Zku a b hl ha i h1 h2)
end
def Zpr(a b:List Int)(ha:a.length<=281474976710656)(hb:b.length<=281474976710656):GP 64 [Z02 a,Z02 b] La (bool (Ld (a=b))) []:=by
 by_cases hl:a.length=b.length
 .cases h:(Li a.length).find? (difB a b)with
  | none =>
   rw[decide_eq_true (Z5v hl h)];exact gF [] func64 [] (Fl 7 wdv a (Fl 9 wdv b (Ffb 10 ((a.length:Int) != (b.length:Int)) (Fl 12 wdv a (Fu (@Zn0 a b aa aa aa) Fz)))))
  | some i =>
   have hs:((Li a.length).find? (difB a b)).isSome=La:=by rw[h];rfl
   rw[decide_eq_false (λq=>(Z5p h).2.1 (by rw[q]))];exact gF [] func64 [] (Fl 7 wdv a (Fl 9 wdv b (Ffb 10 ((a.length:Int) != (b.length:Int)) (Fl 12 wdv a (Fu (@Zlc a b aa aa aa) Fz)))))
 .rw[decide_eq_false (λq=>hl (by rw[q]))];exact gF [] func64 [] (Fl 7 wdv a (Fl 9 wdv b (Ftb 10 ((a.length:Int) != (b.length:Int)) Fz)))
instance:DecidableEq NodeG:=fun x y=>decidable_of_iff (x.hd=y.hd∧x.fs=y.fs) ⟨fun h=>by cases x;cases y;simp only at h;rw[h.1,h.2],fun e=>by rw[e];exact⟨rfl,rfl⟩⟩
def Zmd(x y:NodeG)(hx:x.fs.length<=281474976710656)(hy:y.fs.length<=281474976710656):GP 63 [.ag [int x.hd.K,int x.hd.length,u32 x.hd.map,Z02 x.fs],.ag [int y.hd.K,int y.hd.length,u32 y.hd.map,Z02 y.fs]] La (bool (Ld (x=y))) []:=by
 have e:Ld (x=y)=(x.hd.K==y.hd.K&&(x.hd.length==y.hd.length&&x.hd.map==y.hd.map)&&Ld (x.fs=y.fs)):=by
  obtain⟨⟨x1,x2,x3⟩,x4⟩:=x;obtain⟨⟨y1,y2,y3⟩,y4⟩:=y;by_cases c:x1=y1/\x2=y2/\x3=y3/\x4=y4
  .obtain⟨rfl,rfl,rfl,rfl⟩:=c;simp
  .rw[decide_eq_false (λq=>c (by cases q;exact⟨rfl,rfl,rfl,rfl⟩))];symm;simp only[Bool.and_eq_false_iff,beq_eq_false_iff_ne,decide_eq_false_iff_not];by_cases q1:x1=y1<;>by_cases q2:x2=y2<;>by_cases q3:x3=y3<;>by_cases q4:x4=y4<;>simp_all
 rw[e];exact gF [] func63 [] (FcG 15 (x.hd.K==y.hd.K&&(x.hd.length==y.hd.length&&x.hd.map==y.hd.map)) (λhg=>by(try simp only[bs]at hg);exact @Zpr x.fs y.fs aa aa) Fz)
def eqFL(a b:List NodeG)(i:Nat):Tg:=⟨tm 32 [(1,.d (.sl 4 (b.map NodeG.dv))),(2,.fn 63 []),(6,bool Lc),(15,.d (.sl 4 (a.map NodeG.dv))),(16,int a.length),(17,int i)],[],4⟩
def FsOk(a:List NodeG):Prop:=∀ x∈a,x.fs.length<=281474976710656
def FsOk.at{a:List NodeG}(h:FsOk a){i:Nat}(hi:i<a.length):(a.getD i M).fs.length<=281474976710656:=h _ (by rw[Le,Lh hi];exact Xc hi)
section
variable (a b:List NodeG) (hl:a.length=b.length) (ha:a.length<=281474976710656) (fa:FsOk a) (fb:FsOk b)
include hl ha fa fb
theorem ZfB(i:Nat)(hi:i<a.length)(e:a.getD i M=b.getD i M):CP (rndF f62 0) (eqFL a b i).st .nrm (eqFL a b (i+1)).st:=by
 have f1:=fa.at hi;have f2:=fb.at (hl▸hi)
 exact sF [] [] (Ftb 18 (Ld ((i:Int)<(a.length:Int))) (Fek 20 NodeG.dv a (↑i) i (Fek 24 NodeG.dv b (↑i) i (Fc 29 (@Zmd (a.getD i M) (b.getD i M) aa aa) (Ffb 30 (!decide (a.getD i M=b.getD i M)) (Fx 31 i Fz))))))
theorem Zlp(i:Nat)(hi:i<a.length)(e:a.getD i M≠b.getD i M):CP (rndF f62 0) (eqFL a b i).st .ret (Tg.st ⟨tm 32 [(6,bool Lc)],[],60⟩):=by
 have f1:=fa.at hi;have f2:=fb.at (hl▸hi)
 exact sF [] [] (Ftb 18 (Ld ((i:Int)<(a.length:Int))) (Fek 20 NodeG.dv a (↑i) i (Fek 24 NodeG.dv b (↑i) i (Fc 29 (@Zmd (a.getD i M) (b.getD i M) aa aa) (Ftb 30 (!decide (a.getD i M=b.getD i M)) Fz)))))
omit hl ha fa fb in
theorem Zp2:CP (rndF f62 0) (eqFL a b a.length).st (.ext 0) (Tg.st ⟨tm 32 [(6,bool Lc)],[],60⟩):=by
 exact sF [] [] (Ffb 18 (Ld ((a.length:Int)<(a.length:Int))) Fz)
def Zns(h:(Li a.length).find? (difB a b)=Lf)  := Z0b (S:=λi=>(eqFL a b i).st) a.length (by kernel_rfl) (λi hi=>ZfB a b hl ha fa fb i hi (by rw[<- Z5v hl h])) (Zp2 a b)
theorem Zkc(h:((Li a.length).find? (difB a b)).isSome=La):CP (blkF f62 0) (Tg.st ⟨tm 32 [(1,.d (.sl 4 (b.map NodeG.dv))),(2,.fn 63 []),(6,bool Lc),(15,.d (.sl 4 (a.map NodeG.dv))),(16,int a.length),(17,int 0)],[],4⟩) .ret (Tg.st ⟨tm 32 [(6,bool Lc)],[],60⟩):=by
 obtain⟨i,h⟩:=LQ.1 h;obtain⟨h1,h2,h3⟩:=Z5p h;exact Z0y (S:=λi=>(eqFL a b i).st) i kr (λj hj=>ZfB a b hl ha fa fb j oq (h3 j hj)) (Zlp a b hl ha fa fb i h1 h2)
end
def ZnR(a b:List NodeG)(ha:a.length<=281474976710656)(hb:b.length<=281474976710656)(fa:FsOk a)(fb:FsOk b):GP 62 [.d (.sl 4 (a.map NodeG.dv)),.d (.sl 4 (b.map NodeG.dv)),.fn 63 []] La (bool (Ld (a=b))) []:=by
 by_cases hl:a.length=b.length
 .cases h:(Li a.length).find? (difB a b)with
  | none =>
   rw[decide_eq_true (Z5v hl h)];exact gF [] func62 [] (Fl 11 NodeG.dv a (Fl 13 NodeG.dv b (Ffb 14 ((a.length:Int) != (b.length:Int)) (Fl 16 NodeG.dv a (Fu (@Zns a b aa aa aa aa aa) Fz)))))
  | some i =>
   have hs:((Li a.length).find? (difB a b)).isSome=La:=by rw[h];rfl
   rw[decide_eq_false (λq=>(Z5p h).2.1 (by rw[q]))];exact gF [] func62 [] (Fl 11 NodeG.dv a (Fl 13 NodeG.dv b (Ffb 14 ((a.length:Int) != (b.length:Int)) (Fl 16 NodeG.dv a (Fu (@Zkc a b aa aa aa aa aa) Fz)))))
 .rw[decide_eq_false (λq=>hl (by rw[q]))];exact gF [] func62 [] (Fl 11 NodeG.dv a (Fl 13 NodeG.dv b (Ftb 14 ((a.length:Int) != (b.length:Int)) Fz)))
def Zcx(a b:GraphG):Bool:=Ld (a.roots=b.roots)&&Ld (a.nodes=b.nodes)
structure GphOk (a:GraphG):Prop where
 r:a.roots.length<=281474976710656
 n:a.nodes.length<=281474976710656
 f:FsOk a.nodes
def graphSame(a b:GraphG)(ha:GphOk a)(hb:GphOk b):GP 21 [.ag [Z0x a.roots,.d (.sl 4 (a.nodes.map NodeG.dv))],.ag [Z0x b.roots,.d (.sl 4 (b.nodes.map NodeG.dv))]] La (bool (Zcx a b)) []:=by
 obtain⟨a1,a2,a3⟩:=ha;obtain⟨b1,b2,b3⟩:=hb;unfold Zcx;exact gF [] func21 [] (Fc 9 (@ZpA a.roots b.roots aa aa) (FcG 15 (Ld (a.roots=b.roots)) (λhg=>by(try simp only[bs]at hg);exact @ZnR a.nodes b.nodes aa aa aa aa) Fz))
end Go.Proofs.YtgedmeaemofdkaaGreat
