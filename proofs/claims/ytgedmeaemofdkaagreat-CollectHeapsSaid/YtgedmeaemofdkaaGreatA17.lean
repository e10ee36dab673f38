/-
 The statement CollectHeaps: part 17.
 Conditions: none.
-/
import Derived.Test.YtgedmeaemofdkaaGreatA16
set_option maxRecDepth 100000
set_option maxHeartbeats 2000000
set_option linter.all false
open Inhabited renaming default->M
open Bool renaming true->O,false->La,and_eq_true->Lv,not_eq_true'->Lw,or_false->L4
open Decidable renaming decide->Lb,not_not->Lx
open List renaming map->Lc,mem_range->Ld,replicate->Le,range->Lh,getD_eq_getElem?_getD->Li,mem_append->Lk,find?_eq_none->Ll,find?_range_eq_some->Ln,length_map->Lo,length_cons->Lq,length_nil->Lr,mem_append_left->Ls,mem_append_right->Lt,mem_singleton->Lu,drop->LA,getElem?_drop->LB,mem_cons->LC,mem_cons_of_mem->LD,getElem?_append_left->LO,getElem?_append_right->LQ,getElem?_eq_getElem->LR,getElem?_take->LS,length_drop->LU,map_append->LV,map_cons->LW,map_drop->LY,map_set->LZ,sum_cons->L0,take->L1,append_assoc->L8,ext_getElem->L9,find?_cons->Xa,getElem?_append->Xb,length_set->Xc,length_singleton->Xd,length_take->Xe,map_take->Xf,mem_map->Xg,mem_of_getElem?->Xh,mem_replicate->Xi,range_succ->Xj
open Option renaming none->Lf,some->Lg,getD_some->LG,map_some->Xl
open Go.IntKind renaming u64->Lj,i64->L7
open Classical renaming not_not->Lm
open Nat renaming le_refl->Lp,not_lt_zero->LF,zero_le->Xk
open Int renaming mul_nonneg->Ly,toNat->Lz,add_assoc->LH,le_refl->LI,mul_comm->LL,mul_le_mul_of_nonneg_right->LM,toNat_natCast->LN,add_zero->L5,tdiv_eq_ediv_of_nonneg->L6
open Array renaming getElem?_append->L2,replicate->L3
open Go.Proofs.Tryz
namespace Go.Proofs.YtgedmeaemofdkaaGreat
open Go.Sx Go.RowKit
def C0.val(f:C0):Value:=.agg #[.int .i64 f.fault,.int .i64 f.page,.int .u64 f.addr]
def Zeo ρ w Im(f:C0):Zj ρ w Im f.av f.val:=by refine .ag _ _ rfl (λi v h=>?_) (λi a v b c=>?_);rcases i with _|_|_|i<;>simp at h<;>subst h<;>rfl;rcases i with _|_|_|i<;>simp at b c<;>subst b<;>subst c<;>exact .d (.sc _ rfl)
def ZfL{ρ w Im}{f:C0}{v}(h:Zj ρ w Im f.av v):v=f.val:=by obtain⟨b,c,d,h3,e⟩:=Hm h;rw[c];have g:∀(k:Nat) (a:k<b.size) (v:Value),[nI f.fault,nI f.page,uU f.addr][k]?=Lg (.d (.sc v))->b[k]=v:=λk a v j=>BV (e k _ b[k] j (Array.getElem?_eq_getElem a));have i:b.size=3:=d;simp only[C0.val];congr 1;apply Array.ext;simp[i];intro k a _;rcases k with _|_|_|k;exact g 0 a _ rfl;exact g 1 a _ rfl;exact g 2 a _ rfl;omega
def noGoto_ret{Q:Exit->Act->World->Prop}{a w}(h:Q .ret a w):Exit.noGoto Q Ex.ret.exit a w:=h
def Z2l(h:Heap)(hw:Zy h.W)(p:h.W.length<=1048576):GP 207 [h.av] O (Cy h).av []:=by
 intro f t r j d a;have c:r.size=1:=d;have b:Tryz.f207.body=Lg (.seq (Z7C (unS f207)) (.scope (Z8w (unS f207)))):=by kernel_rfl
 refine calls_of_wp func207 b ?_;have w:Sx.Sys EG t f (tm 83 [(0,h.av)]) (Bn []) 1 {tmps:=r++L3 (Tryz.f207.ntmps-r.size) undef,defers:=[]} f:=by(refine⟨_,t,Sx.Inv.empty j (Lp 1),⟨by rw[c];simp[c];kernel_rfl,λk y v g m=>?_,rfl⟩⟩;rw[show tm 83 [(0,h.av)]=[h.av]++Le 82 .any from by kernel_rfl,Xb]at g;rw[L2]at m;split at g;rename_i z;rw[if_pos (by rw[d];exact z)]at m;exact a k y v g m;have:=Xh g;rw[(Xi.1 this).2];exact .any _)
 refine wp_seq (wp_mono (ZhK h _ _ _ _ _ w) ?_);rintro e a1 w1 ⟨rfl,x⟩;refine wp_scope_straight (wp_mono (Zdz h hw p _ _ _ _ _ x) ?_);rintro e a2 w2 ⟨rfl,ρ2,i,s,u⟩;obtain⟨v,n,o⟩:=Z3r (P:=prog) (fn:=f207) (l:=[(Cy h).av]) s u kr;refine noGoto_ret (bodyPost_ret n u.defers ⟨v,rfl,s.kept.no,λ_=>Lf,λ_=>False,λ_ q=>q.elim,λ_ q=>q.elim,λ_ _ _ q=>(by cases q),λ_ _ _ _ _ q=>(by cases q),λ_ _ q=>(by cases q),λk B q=>by simp at q, ?_⟩);rw[ZfL (show Zj ρ2 w2 i (Cy h).av v from o)];exact Zeo _ _ _ _
end Go.Proofs.YtgedmeaemofdkaaGreat
namespace Go.Proofs.YtgedmeaemofdkaaGreat
open Go.Sx
def Zf7{c:List Int}{x k:Int}(f:0<=k){o:Nat}(ho:o<c.length):(R5 c x k).getD o 0=if x<=o/\(o:Int)<x+k then 0 else c.getD o 0:=by
 have h1:G4 c x<=c.length:=PY c x;have h2:G4 c (x+k)<=c.length:=PY c (x+k);have h3:=Z8E c x f;have e:G4 c x+(G4 c (x+k)-G4 c x)=G4 c (x+k):=by omega
 have a1:o<G4 c x↔(o:Int)<x:=by unfold G4;omega
 have a:o<G4 c (x+k)↔(o:Int)<x+k:=by unfold G4;omega
 unfold R5;rw[e];simp only[Li];by_cases b:o<G4 c x;rw[L8,LO qo,LS,if_pos b,if_neg (by have:=a1.1 b;omega)];by_cases d:o<G4 c (x+k);rw[LO qo,LQ qo,if_pos (by have:=a.1 d;omega)];rw[List.getElem?_replicate,if_pos qo];rfl;rw[LQ qo,LB,if_neg (λq=>d (a.2 q.2))];congr 2;simp;omega
def Z5c{h F}{l c:List Int}{o:Nat}(e:o<c.length):∀n:Nat,n<=l.length->(ZL h F l c n).getD o 0=if(l.take n).any (λa=>Lb (a-F<=o)&&Lb ((o:Int)<a-F+Gu h a))=O then 0 else c.getD o 0
 |0,_=>by simp[ZL]
 |n+1,hn=>by
  have hl:=Tw h F l c n;rw[ZL,Zf7 (Z4y h _).1 oq,Z5c e n oq,TI oq,List.any_append];generalize l.getD n M=a;generalize (l.take n).any _=b;by_cases d:a-F<=o/\(o:Int)<a-F+Gu h a
  .rw[if_pos d,if_pos (by simp[d])]
  .rw[if_neg d];have:([a].any λa=>Lb (a-F<=(o:Int))&&Lb ((o:Int)<a-F+Gu h a))=La:=by
    simp only[List.any_cons,List.any_nil,L4,Bool.and_eq_false_iff,decide_eq_false_iff_not];omega
   rw[this,L4]
def Z03{h:Heap}(a:Z8 h=O){i:Nat}(hi:i<h.P.length){o:Int}(ho:0<=o/\o<h.C.pw):(address h.C i o).1=4096+(i*h.C.pw+o):=by have b:=B5 a;unfold address;rw[if_pos b.1,if_pos (HM.2 oq)]
def Z2q{h:Heap}(a:Z8 h=O){i:Nat}(hi:i<h.P.length):0<=(i:Int)*h.C.pw/\(i:Int)*h.C.pw+h.C.pw<=h.W.length:=by
 have po:=B5 a;have h1:((i:Int)+1)*h.C.pw<=h.C.pg*h.C.pw:=LM oq oq;have h2:((i:Int)+1)*h.C.pw=i*h.C.pw+h.C.pw:=by rw[Int.add_mul,Int.one_mul]
 have h3:h.C.pg*h.C.pw=h.C.pw*h.C.pg:=LL _ _;have h4:(0:Int)<=i*h.C.pw:=Ly oq oq;omega
def Zdq{h:Heap}(a:Z8 h=O){i:Nat}(b:i<h.P.length):(Rq h i).length=h.C.pw.toNat/\∀o:Nat,o<h.C.pw.toNat->(Rq h i).getD o 0=Gk h i o:=by have po:=B5 a;have pi:=Z2q a b;have c:=Z03 a b (o:=0) oq;constructor;simp only[Rq,Xe,LU];omega;intro o e;have d:=Z03 a b (o:=o) oq;unfold Gk Z1;rw[d];rw[if_pos oq];simp only[Rq,Li,LS,LB,if_pos e];rw[c,show(4096+((i:Int)*h.C.pw+0)-4096).toNat+o=(4096+((i:Int)*h.C.pw+(o:Int))-4096).toNat from by omega]
def Z3p{h:Heap}(b:Z8 h=O){i:Nat}(c:i<h.P.length):(BR h i).length=h.C.pw.toNat/\∀o:Nat,o<h.C.pw.toNat->(BR h i).getD o 0=if(CB h i).getD o M=O then 0 else Gk h i o:=by
 have po:=B5 b;obtain⟨r1,r2⟩:=Zdq b c;constructor;rw[BR,Tw,r1];intro o d;rw[BR,Z5c oq _ (Lp _),List.take_length,r2 o d];have f:=Z03 b c (o:=0) oq;have e:(CB h i).getD o M=(Ze h (B1 h.P i:Nat)).1.any (λa=>Lb (a-(address h.C i 0).1<=(o:Int))&&Lb ((o:Int)<a-(address h.C i 0).1+Gu h a)):=by(unfold CB Co;rw[Li,List.getElem?_map,List.getElem?_range d];simp only[Xl,LG];congr 1;funext a;unfold D8;rw[f,show a-(4096+((i:Int)*h.C.pw+0))=a-4096-i*h.C.pw from by omega])
 rw[e]
def Z6x{h:Heap}(hp:Z8 h=O){i:Nat}(hi:i<h.P.length)(e:Gp (BR h i)<(BR h i).length):Ek h i (CB h i)=4096+i*h.C.pw+Gp (BR h i):=by
 obtain⟨c1,c2⟩:=Z3p hp hi;have hu:=MK h i;have hf:(Lh (CB h i).length).find? (Hi h i (CB h i))=Lg (Gp (BR h i)):=by
  rw[Ln];refine⟨?_,Ld.2 oq,λj hj=>?_⟩
  .have h1:=Z7o e;rw[show(M:Int)=0 from rfl,c2 _ oq]at h1;split at h1
   .exact absurd rfl h1
   .rename_i h2;simp only[Hi,Lv,Lw,decide_eq_true_eq];exact⟨by simpa using h2,h1⟩
  .have h1:=(Z0g hj).2;rw[show(M:Int)=0 from rfl,c2 _ oq]at h1;simp only[Hi,Bool.not_and,Bool.not_not,Bool.or_eq_true,Lw,decide_eq_false_iff_not];split at h1
   .rename_i h2;exact .inl h2
   .exact .inr (λq=>q h1)
 unfold Ek;rw[hf]
def Zgh{h:Heap}(hp:Z8 h=O){i:Nat}(hi:i<h.P.length)(e:¬ Gp (BR h i)<(BR h i).length):Ek h i (CB h i)=0:=by
 obtain⟨c1,c2⟩:=Z3p hp hi;have hu:=MK h i;have hf:(Lh (CB h i).length).find? (Hi h i (CB h i))=Lf:=by
  rw[Ll];intro j hj;have hj:=Ld.1 hj;have h1:=(Z0g (l:=BR h i) (m:=j) oq).2;rw[show(M:Int)=0 from rfl,c2 _ oq]at h1;simp only[Hi,Lv,Lw,decide_eq_true_eq,not_and];intro h2 h3;rw[if_neg (by rw[h2];simp)]at h1;exact h3 h1
 unfold Ek;rw[hf]
def Z1o{h:Heap}(a:Z8 h=O){i:Nat}(c:i<h.P.length):EZ h i (Ze h i).1=Lb (Cj h i (Ze h i).1≠0):=by
 unfold Cj EZ;cases hf:(Ze h i).1.find? (Gh h i)with
 |none=>simp
 |some x =>
  have b:=List.mem_of_find?_eq_some hf;have e:=Z2y a (i:=i) oq;rw[e]at b;obtain⟨y,d,rfl⟩:=Xg.1 b;have h1:=(Z1S y d).1;have h2:=(Z2q a c).1;have:y.addr≠0:=by omega
  simp[this]
def find_congr{α:Type}{p q:α->Bool}:∀{l:List α},(∀x∈l,p x=q x)->l.find? p=l.find? q
 |[],_=>rfl
 |a::l,h=>by
  rw[Xa,Xa,h a pq,find_congr (l:=l) (λx b=>h x (by simp[b]))]
def find_range{l:List Int}{p:Int->Bool}:match (Lh l.length).find? (λi=>p (l.getD i M))with|Lf=>l.find? p=Lf|Lg i=>l.find? p=Lg (l.getD i M):=by
 split;rename_i a;rw[Ll]at a⊢;intro x j;obtain⟨i,g,e⟩:=BI.1 j;have:=a i (Ld.2 g);rwa [e]at this;rename_i i a;obtain⟨c,b,f⟩:=Ln.1 a;have b:=Ld.1 b;cases hf:l.find? p with
 |none =>have:=Ll.1 hf (l.getD i M) (BI.2 ⟨i,b,rfl⟩);exact absurd c this
 |some x =>
  obtain⟨n,k1,d,k,m⟩:=Ag hf;have h:n=i:=by(rcases Nat.lt_trichotomy n i with q|q|q;have:=f n q;rw[d,k]at this;cases this;exact q;have:=m i q;rw[c]at this;cases this)
  subst h;rw[d]
def Tn{h}{a:Int}(b:a∈(Zt h).1):(Z9 h a).2=0/\(Z9 h a).1.K≠0:=by by_cases e:(Cq h).2=0;rw[Z6W h e]at b;obtain⟨x,i,rfl⟩:=Xg.1 b;obtain⟨c,d⟩:=List.mem_filter.1 i;obtain⟨f,g⟩:=Z5r x c;refine⟨g, ?_⟩;rw[<-f];simpa[Em]using d;rw[Z93 h e]at b;simp at b
def Z49 a:∀n:Nat,Ch a n=((Lh n).filter (λk:Nat=>Bt a k)).map (λk:Nat=>(k:Int))
 |0=>rfl
 |n+1=>by
  rw[Ch,Xj,List.filter_append,LV,<-Z49 a n];by_cases h:Bt a (n:Int)=O
  .rw[if_pos h];simp[h]
  .rw[if_neg h];simp[h]
def TQ(h:Heap)(b:List Int)(a:Int):Option Nat:=(Lh (Cr h a).1.length).find? (IX (Zx h a).1 (Cr h a).1 b)
def Z7S{h a}(e:(Z9 h a).2=0)(b:(Z9 h a).1.K≠0) c:apF h c a=(TQ h c a).map (λk:Nat=>(k:Int)):=by
 have i1:=Z1V e;have m:=(TL e).1;have d:Zx h a=Z9 h a:=by(unfold Zx;rw[if_pos m,if_neg oq,if_neg (λq=>b q.2)])
 have f:=Sq (h:=h) (a:=a) (by rw[d];exact e);rw[d]at f;have l:=f.2.2.2.2.2.2.1;have hl:=f.2.2.2.2.2.2.2.2.2;have g:(Cr h a).1=(h.W.drop (a+1-4096).toNat).take (Z9 h a).1.length.toNat:=by(unfold Cr;rw[d,if_pos e,BU,if_neg oq,if_pos oq])
 have j:(Cr h a).1.length=(Z9 h a).1.length.toNat:=by(rw[g,Xe,LU];omega)
 have i:∀k:Nat,k<(Z9 h a).1.length.toNat->(Cr h a).1.getD k M=fdV h a k:=by(intro k b;unfold fdV Z1;rw[if_pos oq,g];simp only[Li,LS,LB,if_pos b];rw[show(a+1-4096).toNat+k=(a+1+(k:Int)-4096).toNat from by omega];rfl)
 unfold apF TQ Zz;rw[if_pos l,Z49,List.find?_map,List.find?_filter,j,d];congr 1;refine find_congr λk b=>?_;have b:=Ld.1 b;rw[IX,i k b];simp only[Function.comp,NQ];cases Bt (Z9 h a).1 (k:Int)<;>simp
def Zic(h:Heap):Cy h=Ew h (Zt h).1:=by
 have c:=find_range (l:=(Zt h).1) (p:=λa=>(TQ h (Zt h).1 a).isSome);have m:(Zt h).1.find? (λa=>(apF h (Zt h).1 a).isSome)=(Zt h).1.find? (λa=>(TQ h (Zt h).1 a).isSome):=find_congr λa g=>by(rw[Z7S (Tn g).1 (Tn g).2,Option.isSome_map])
 unfold Cy RY Ew;rw[m];change match (Lh (Zt h).1.length).find? (λi=>(Hq h (Zt h).1 i).isSome)with|Lf=>_|Lg i=>_ at c
 split at c;rename_i b;rw[c,b];rfl;rename_i i b;have f:=(Ln.1 b);have e:(Zt h).1.getD i M∈(Zt h).1:=BI.2 ⟨i,Ld.1 f.2.1,rfl⟩;obtain⟨k,j⟩:=Option.isSome_iff_exists.1 f.1;have d:TQ h (Zt h).1 ((Zt h).1.getD i M)=Lg k:=j;have i1:=Z1V (Tn e).1;rw[c,b];simp only[j,Z7S (Tn e).1 (Tn e).2,d,Xl,LG];rw[if_neg oq]
def Ny(h:Heap)(i:Nat):Tg:=⟨tm 64 [(1,.pt 8001 0 0),(2,.pt 8002 0 0),(12,ZT h.P),(13,nI h.P.length),(14,nI i)],[(8002,.box 223 [nI 0,nI 0,uU 0]),(8001,.box 28 h.cells)],60⟩
def DY(f:C0):Tg:=⟨tm 64 [(2,.pt 8002 0 0)],[(8002,.box 223 [nI f.fault,nI f.page,uU f.addr])],64⟩
section
variable(h:Heap)(i:Nat)(c:Zy h.W)(a:Z8 h=O)(b:i<h.P.length)
include c a b
theorem Zjz(e:Ek h i (CB h i)=0):C1 (BR h i)=-1:=by by_cases d:Gp (BR h i)<(BR h i).length;have h1:=Z6x a b d;have h2:=(Z2q a b).1;omega;exact if_neg d
theorem ZkC(e:¬ Ek h i (CB h i)=0):0<=C1 (BR h i)/\C1 (BR h i)<=64/\Ek h i (CB h i)=(address h.C i 0).1+C1 (BR h i):=by have po:=B5 a;by_cases d:Gp (BR h i)<(BR h i).length;have f:=Z6x a b d;have g:C1 (BR h i)=Gp (BR h i):=if_pos d;have j:=Z03 a b (o:=0) oq;have h4:=(Z3p a b).1;rw[f,g,j];omega;exact absurd (Zgh a b d) e
theorem Z6o(d:(h.P.getD i M).K=0\/(h.P.getD i M).S=h.S)(n2:(Ze h (i:Int)).2=0)(f:Cj h (i:Int) (Ze h (i:Int)).1=0)(g:Ek h i (CB h i)=0):CP (Zl f206 0) (Ny h i).st .nrm (Ny h (i+1)).st:=by have po:=B5 a;have hn:=NL h (i:Int);have hr:=Al a (i:Int);have e:=Z1o a b;rw[f]at e;have q4:=Zjz h i c a b g;simp only[ne_eq,not_true_eq_false,decide_false]at e;rcases d with d|d;exact sF [] []<|Fh 48 [.br La]<|Fh 58 [.br La]<|Ftb 15 (Lb ((i:Int)<(h.P.length:Int)))<|Fek 17 Z0.dv h.P (↑i) i<|Ffb 28 ((h.P.getD i M).K != 0&&(h.P.getD i M).S != h.S)<|Fc 34 (@NS h ((i:Int)) aa oq)<|Ffb 38 ((Ze h (i:Int)).2 != 0)<|Fc 45 (@AL h ((i:Int)) ((Ze h (i:Int)).1) aa oq oq oq aa)<|Fa ‹EZ h (i:Int) (Ze h (i:Int)).1=La›<|Fc 55 (@Pm h i aa aa aa)<|Fb (Lb (0<=C1 (BR h i))=La)<|Fx 62 i Fz;exact sF [] []<|Fh 48 [.br La]<|Fh 58 [.br La]<|Ftb 15 (Lb ((i:Int)<(h.P.length:Int)))<|Fek 17 Z0.dv h.P (↑i) i<|Ffb 28 ((h.P.getD i M).K != 0&&(h.P.getD i M).S != h.S)<|Fc 34 (@NS h ((i:Int)) aa oq)<|Ffb 38 ((Ze h (i:Int)).2 != 0)<|Fc 45 (@AL h ((i:Int)) ((Ze h (i:Int)).1) aa oq oq oq aa)<|Fa ‹EZ h (i:Int) (Ze h (i:Int)).1=La›<|Fc 55 (@Pm h i aa aa aa)<|Fb (Lb (0<=C1 (BR h i))=La)<|Fx 62 i Fz
theorem ZiQ(d:¬ (h.P.getD i M).K=0/\¬ (h.P.getD i M).S=h.S):CP (Zl f206 0) (Ny h i).st .ret (DY ⟨2,i,0⟩).st:=by have po:=B5 a;obtain⟨d,n2⟩:=d;exact sF [] []<|Ftb 15 (Lb ((i:Int)<(h.P.length:Int)))<|Fek 17 Z0.dv h.P (↑i) i<|Ftb 28 ((h.P.getD i M).K != 0&&(h.P.getD i M).S != h.S) Fz
theorem ZiS(d:(h.P.getD i M).K=0\/(h.P.getD i M).S=h.S)(n2:¬ (Ze h (i:Int)).2=0):CP (Zl f206 0) (Ny h i).st .ret (DY ⟨3,i,0⟩).st:=by have po:=B5 a;rcases d with d|d;exact sF [] []<|Ftb 15 (Lb ((i:Int)<(h.P.length:Int)))<|Fek 17 Z0.dv h.P (↑i) i<|Ffb 28 ((h.P.getD i M).K != 0&&(h.P.getD i M).S != h.S)<|Fc 34 (@NS h ((i:Int)) aa oq)<|Ftb 38 ((Ze h (i:Int)).2 != 0) Fz;exact sF [] []<|Ftb 15 (Lb ((i:Int)<(h.P.length:Int)))<|Fek 17 Z0.dv h.P (↑i) i<|Ffb 28 ((h.P.getD i M).K != 0&&(h.P.getD i M).S != h.S)<|Fc 34 (@NS h ((i:Int)) aa oq)<|Ftb 38 ((Ze h (i:Int)).2 != 0) Fz
theorem Zbs(d:(h.P.getD i M).K=0\/(h.P.getD i M).S=h.S)(n2:(Ze h (i:Int)).2=0)(e:¬ Cj h (i:Int) (Ze h (i:Int)).1=0):CP (Zl f206 0) (Ny h i).st .ret (DY ⟨5,i,Cj h (i:Int) (Ze h (i:Int)).1⟩).st:=by
 have po:=B5 a;have hn:=NL h (i:Int);have hr:=Al a (i:Int);have q3:EZ h i (Ze h i).1=O:=by rw[Z1o a b];simpa using e
 rcases d with d|d;exact sF [] []<|Fh 48 [.br O]<|Ftb 15 (Lb ((i:Int)<(h.P.length:Int)))<|Fek 17 Z0.dv h.P (↑i) i<|Ffb 28 ((h.P.getD i M).K != 0&&(h.P.getD i M).S != h.S)<|Fc 34 (@NS h ((i:Int)) aa oq)<|Ffb 38 ((Ze h (i:Int)).2 != 0)<|Fc 45 (@AL h ((i:Int)) ((Ze h (i:Int)).1) aa oq oq oq aa)<|Fa ‹EZ h (i:Int) (Ze h (i:Int)).1=O› Fz;exact sF [] []<|Fh 48 [.br O]<|Ftb 15 (Lb ((i:Int)<(h.P.length:Int)))<|Fek 17 Z0.dv h.P (↑i) i<|Ffb 28 ((h.P.getD i M).K != 0&&(h.P.getD i M).S != h.S)<|Fc 34 (@NS h ((i:Int)) aa oq)<|Ffb 38 ((Ze h (i:Int)).2 != 0)<|Fc 45 (@AL h ((i:Int)) ((Ze h (i:Int)).1) aa oq oq oq aa)<|Fa ‹EZ h (i:Int) (Ze h (i:Int)).1=O› Fz
theorem ZgE(d:(h.P.getD i M).K=0\/(h.P.getD i M).S=h.S)(n2:(Ze h (i:Int)).2=0)(g:Cj h (i:Int) (Ze h (i:Int)).1=0)(j:¬ Ek h i (CB h i)=0):CP (Zl f206 0) (Ny h i).st .ret (DY ⟨4,i,Ek h i (CB h i)⟩).st:=by
 have po:=B5 a;have hn:=NL h (i:Int);have hr:=Al a (i:Int);have e:=Z1o a b;rw[g]at e;simp only[ne_eq,not_true_eq_false,decide_false]at e;obtain⟨q4,q5,k⟩:=ZkC h i c a b j;have f:max (C1 (BR h i)) 0=C1 (BR h i):=by omega
 rw[k];rcases d with d|d;exact sF [] (fO 6)<|Fh 48 [.br La]<|Fh 58 [.br O]<|Ftb 15 (Lb ((i:Int)<(h.P.length:Int)))<|Fek 17 Z0.dv h.P (↑i) i<|Ffb 28 ((h.P.getD i M).K != 0&&(h.P.getD i M).S != h.S)<|Fc 34 (@NS h ((i:Int)) aa oq)<|Ffb 38 ((Ze h (i:Int)).2 != 0)<|Fc 45 (@AL h ((i:Int)) ((Ze h (i:Int)).1) aa oq oq oq aa)<|Fa ‹EZ h (i:Int) (Ze h (i:Int)).1=La›<|Fc 55 (@Pm h i aa aa aa)<|Fb (Lb (0<=C1 (BR h i))=O)<|Fr (223:Int)<|Fr (4:Int)<|Fr (i:Int)<|Fa (by rw[f]:(address h.C (i:Int) 0).1+max (C1 (BR h i)) 0=(C0.mk 4 (i:Int) ((address h.C (i:Int) 0).1+C1 (BR h i))).addr) Fz;exact sF [] (fO 6)<|Fh 48 [.br La]<|Fh 58 [.br O]<|Ftb 15 (Lb ((i:Int)<(h.P.length:Int)))<|Fek 17 Z0.dv h.P (↑i) i<|Ffb 28 ((h.P.getD i M).K != 0&&(h.P.getD i M).S != h.S)<|Fc 34 (@NS h ((i:Int)) aa oq)<|Ffb 38 ((Ze h (i:Int)).2 != 0)<|Fc 45 (@AL h ((i:Int)) ((Ze h (i:Int)).1) aa oq oq oq aa)<|Fa ‹EZ h (i:Int) (Ze h (i:Int)).1=La›<|Fc 55 (@Pm h i aa aa aa)<|Fb (Lb (0<=C1 (BR h i))=O)<|Fr (223:Int)<|Fr (4:Int)<|Fr (i:Int)<|Fa (by rw[f]:(address h.C (i:Int) 0).1+max (C1 (BR h i)) 0=(C0.mk 4 (i:Int) ((address h.C (i:Int) 0).1+C1 (BR h i))).addr) Fz
end
def Zbg(h:Heap):CP (Zl f206 0) (Ny h h.P.length).st (.ext 0) (DY ⟨0,0,0⟩).st:=by exact sF [] []<|Ffb 15 (Lb ((h.P.length:Int)<(h.P.length:Int))) Fz
def Cw(h:Heap):C0:=match Gi h with|Lg i=>pageF h i|Lf=>⟨0,0,0⟩
def Z5l{h i}(e:(pageF h i).fault=0):((h.P.getD i M).K=0\/(h.P.getD i M).S=h.S)/\(Ze h (i:Int)).2=0/\Cj h (i:Int) (Ze h (i:Int)).1=0/\Ek h i (CB h i)=0:=by unfold pageF at e;split at e;simp at e;rename_i a;split at e;simp at e;rename_i b;split at e;simp at e;rename_i c;split at e;simp at e;rename_i d;refine⟨?_,Lm.1 b,Lm.1 c,Lm.1 d⟩;by_cases q:(h.P.getD i M).K=0;exact .inl q;refine .inr (Lm.1 λf=>a ⟨q,f⟩)
def Zd4(h:Heap)(i:Nat)(g:Zy h.W)(f:Z8 h=O)(d:i<h.P.length)(e:(pageF h i).fault≠0):CP (Zl f206 0) (Ny h i).st .ret (DY (pageF h i)).st:=by
 unfold pageF at e⊢;split;rename_i b;exact ZiQ h i g f d b;rename_i b;have k:(h.P.getD i M).K=0\/(h.P.getD i M).S=h.S:=by(by_cases q:(h.P.getD i M).K=0;exact .inl q;exact .inr (Lm.1 λl=>b ⟨q,l⟩))
 split;rename_i a;exact ZiS h i g f d k a;rename_i a;split;rename_i c;exact Zbs h i g f d k (Lm.1 a) c;rename_i c;split;rename_i j;exact ZgE h i g f d k (Lm.1 a) (Lm.1 c) j;rename_i j;rw[if_neg b,if_neg a,if_neg c,if_neg j]at e;exact absurd rfl e
def Zc5(h:Heap)(d:Zy h.W)(c:Z8 h=O)(b:Gi h=Lf):CP (Zk f206 0) (Ny h 0).st .nrm (Tg.st ⟨tm 64 [(2,.pt 8002 0 0)],[(8002,.box 223 [nI 0,nI 0,uU 0])],64⟩):=by refine Bp (S:=λk=>(Ny h k).st) h.P.length kr (λk a=>?_) (Zbg h);have e:=Ll.1 b k (Ld.2 a);obtain⟨f,g,j,l⟩:=Z5l (h:=h) (i:=k) (by simpa using e);exact Z6o h k d c a f g j l
def Zlf(h:Heap) i(c:Zy h.W)(b:Z8 h=O)(g:Gi h=Lg i):CP (Zk f206 0) (Tg.st ⟨tm 64 [(1,.pt 8001 0 0),(2,.pt 8002 0 0),(12,ZT h.P),(13,nI h.P.length),(14,nI 0)],[(8002,.box 223 [nI 0,nI 0,uU 0]),(8001,.box 28 h.cells)],60⟩) .ret (Tg.st ⟨tm 64 [(2,.pt 8002 0 0)],[(8002,.box 223 [nI (pageF h i).fault,nI (pageF h i).page,uU (pageF h i).addr])],64⟩):=by obtain⟨d,a,f⟩:=Ln.1 g;have a:=Ld.1 a;refine Ev (S:=λk=>(Ny h k).st) i kr (λk j=>?_) (Zd4 h i c b a (by simpa using d));have e:=f k j;obtain⟨l,m,n,o⟩:=Z5l (h:=h) (i:=k) (by simpa using e);exact Z6o h k c b oq l m n o
def Z07(h:Heap)(hw:Zy h.W)(b:Z8 h=O):GP 206 [h.av] O (Cw h).av []:=by
 have po:=B5 b;cases hf:Gi h with
 |none =>
  have a:Cw h=⟨0,0,0⟩:=by simp only[Cw,hf]
  rw[a];exact gF [] func206 []<|Fl 13 Z0.dv h.P<|Fu (@Zc5 h aa aa aa) Fz
 |some i =>
  have a:Cw h=pageF h i:=by simp only[Cw,hf]
  rw[a];exact gF [] func206 []<|Fl 13 Z0.dv h.P<|Fu (@Zlf h i aa aa aa) Fz
def ZaC(h:Heap)(hw:Zy h.W)(hp:Z8 h=La):GP 171 [h.av] O (C0.av ⟨1,0,0⟩) []:=by exact gF [] func171 []<|Fc 9 (@Eb h)<|Ftb 10 (!Z8 h) Fz
def Za4(h:Heap)(hw:Zy h.W)(d:Z8 h=O) i(a:Gi h=Lg i):GP 171 [h.av] O (pageF h i).av []:=by
 have po:=B5 d;have b:Cw h=pageF h i:=by simp only[Cw,a]
 have c:¬ (pageF h i).fault=0:=by simpa using (Ln.1 a).1
 rw[<-b]at c⊢;exact gF [] func171 []<|Fc 9 (@Eb h)<|Ffb 10 (!Z8 h)<|Fc 13 (@Z07 h aa aa)<|Ftb 16 (!((Cw h).fault==0&&((Cw h).page==0&&(Cw h).addr==0))) Fz
def Zak(h:Heap)(hw:Zy h.W)(c:Z8 h=O)(b:Gi h=Lf)(hq:¬ (Cy h).fault=0):GP 171 [h.av] O (Cy h).av []:=by
 have po:=B5 c;have a:Cw h=⟨0,0,0⟩:=by simp only[Cw,b]
 have q1:(Cw h).fault=0:=by rw[a]
 have q2:(Cw h).page=0:=by rw[a]
 have q3:(Cw h).addr=0:=by rw[a]
 exact gF [] func171 []<|Fc 9 (@Eb h)<|Ffb 10 (!Z8 h)<|Fc 13 (@Z07 h aa aa)<|Ffb 16 (!((Cw h).fault==0&&((Cw h).page==0&&(Cw h).addr==0)))<|Fc 19 (@Z2l h aa oq)<|Ftb 22 (!((Cy h).fault==0&&((Cy h).page==0&&(Cy h).addr==0))) Fz
def Nz(h:Heap)(i:Nat):Tg:=⟨tm 50 [(1,.pt 8001 0 0),(2,.pt 8002 0 0),(5,nI (BJ h.P i)),(25,ZT h.P),(26,nI h.P.length),(27,nI i)],[(8002,.box 223 [nI 0,nI 0,uU 0]),(8001,.box 28 h.cells)],60⟩
def Zbe(h:Heap)(i:Nat)(c:Z8 h=O)(hi:i<h.P.length):CP (Zl f171 0) (Nz h i).st .nrm (Nz h (i+1)).st:=by
 have po:=B5 c;have:=R6 h.P i;by_cases a:(h.P.getD i M).K=1;by_cases b:0<(h.P.getD i M).N;have e:BJ h.P (i+1)=BJ h.P i+1:=by rw[BJ,if_pos ⟨a,b⟩]
 rw[Nz,Nz,e];exact sF [] []<|Ftb 28 (Lb ((i:Int)<(h.P.length:Int)))<|Fek 29 Z0.dv h.P (↑i) i<|Ftb 38 ((h.P.getD i M).K==1&&Lb (0<(h.P.getD i M).N))<|Fw 40 ((↑(BJ h.P i):Int)+1) (↑(BJ h.P i+1):Int)<|Fx 41 i Fz;have e:BJ h.P (i+1)=BJ h.P i:=by rw[BJ,if_neg (λq=>b q.2)];rfl
 rw[Nz,Nz,e];exact sF [] []<|Ftb 28 (Lb ((i:Int)<(h.P.length:Int)))<|Fek 29 Z0.dv h.P (↑i) i<|Ffb 38 ((h.P.getD i M).K==1&&Lb (0<(h.P.getD i M).N))<|Fx 41 i Fz;have e:BJ h.P (i+1)=BJ h.P i:=by rw[BJ,if_neg (λq=>a q.1)];rfl
 rw[Nz,Nz,e];exact sF [] []<|Ftb 28 (Lb ((i:Int)<(h.P.length:Int)))<|Fek 29 Z0.dv h.P (↑i) i<|Ffb 38 ((h.P.getD i M).K==1&&Lb (0<(h.P.getD i M).N))<|Fx 41 i Fz
def Zl1(h:Heap):CP (Zl f171 0) (Nz h h.P.length).st (.ext 0) (Tg.st ⟨tm 50 [(1,.pt 8001 0 0),(2,.pt 8002 0 0),(5,nI (BJ h.P h.P.length))],[(8002,.box 223 [nI 0,nI 0,uU 0]),(8001,.box 28 h.cells)],64⟩):=by exact sF [] []<|Ffb 28 (Lb ((h.P.length:Int)<(h.P.length:Int))) Fz
def Z67(h:Heap)(b:Z8 h=O)  := Bp (S:=λi=>(Nz h i).st) h.P.length (by kernel_rfl) (λi a=>Zbe h i b a) (Zl1 h)
def ZcU(h:Heap)(hw:Zy h.W)(f:Z8 h=O)(e:Gi h=Lf)(c:(Cy h).fault=0)(hc:h.C.pg/4<(BJ h.P h.P.length:Nat)):GP 171 [h.av] O (C0.av ⟨7,0,0⟩) []:=by
 have po:=B5 f;have cl:=R6 h.P h.P.length;have a:Cw h=⟨0,0,0⟩:=by simp only[Cw,e]
 have q1:(Cw h).fault=0:=by rw[a]
 have q2:(Cw h).page=0:=by rw[a]
 have q3:(Cw h).addr=0:=by rw[a]
 have b:Cy h=⟨0,0,0⟩:=by(unfold Cy at c⊢;split at c;rename_i d;rw[if_pos d];simp at c)
 have q4:(Cy h).fault=0:=by rw[b]
 have q5:(Cy h).page=0:=by rw[b]
 have q6:(Cy h).addr=0:=by rw[b]
 exact gF [] func171 []<|Fc 9 (@Eb h)<|Ffb 10 (!Z8 h)<|Fc 13 (@Z07 h aa aa)<|Ffb 16 (!((Cw h).fault==0&&((Cw h).page==0&&(Cw h).addr==0)))<|Fc 19 (@Z2l h aa oq)<|Ffb 22 (!((Cy h).fault==0&&((Cy h).page==0&&(Cy h).addr==0)))<|Fl 26 Z0.dv h.P<|Fu (@Z67 h aa)<|Fg 46 (by rw[L6 oq,CR oq oq]:L7.wrap (h.C.pg.tdiv 4)=h.C.pg/4)<|Fa (by decide:(4:Int)≠0)<|Ftb 47 (Lb (h.C.pg/4<(↑(BJ h.P h.P.length):Int))) Fz
def Zb3(h:Heap)(hw:Zy h.W)(f:Z8 h=O)(e:Gi h=Lf)(c:(Cy h).fault=0)(hc:¬ h.C.pg/4<(BJ h.P h.P.length:Nat)):GP 171 [h.av] O (C0.av ⟨0,0,0⟩) []:=by
 have po:=B5 f;have cl:=R6 h.P h.P.length;have a:Cw h=⟨0,0,0⟩:=by simp only[Cw,e]
 have q1:(Cw h).fault=0:=by rw[a]
 have q2:(Cw h).page=0:=by rw[a]
 have q3:(Cw h).addr=0:=by rw[a]
 have b:Cy h=⟨0,0,0⟩:=by(unfold Cy at c⊢;split at c;rename_i d;rw[if_pos d];simp at c)
 have q4:(Cy h).fault=0:=by rw[b]
 have q5:(Cy h).page=0:=by rw[b]
 have q6:(Cy h).addr=0:=by rw[b]
 exact gF [] func171 []<|Fc 9 (@Eb h)<|Ffb 10 (!Z8 h)<|Fc 13 (@Z07 h aa aa)<|Ffb 16 (!((Cw h).fault==0&&((Cw h).page==0&&(Cw h).addr==0)))<|Fc 19 (@Z2l h aa oq)<|Ffb 22 (!((Cy h).fault==0&&((Cy h).page==0&&(Cy h).addr==0)))<|Fl 26 Z0.dv h.P<|Fu (@Z67 h aa)<|Fg 46 (by rw[L6 oq,CR oq oq]:L7.wrap (h.C.pg.tdiv 4)=h.C.pg/4)<|Fa (by decide:(4:Int)≠0)<|Ffb 47 (Lb (h.C.pg/4<(↑(BJ h.P h.P.length):Int))) Fz
def Zlc(h:Heap)(c:Zy h.W):GP 171 [h.av] O (Bf h).av []:=by
 have e:=Zic h;unfold Bf;rw[<-e];by_cases a:Z8 h=O;rw[if_pos a];cases hb:Gi h with|some i=>exact Za4 h c a i hb|none =>by_cases b:(Cy h).fault=0;simp only[b,ne_eq,not_true_eq_false,if_false];by_cases d:h.C.pg/4<(BJ h.P h.P.length:Nat);rw[if_pos d];exact ZcU h c a hb b d;rw[if_neg d];exact Zb3 h c a hb b d;simp only[ne_eq,b,not_false_eq_true,if_true];exact Zak h c a hb b
 rw[if_neg a];exact ZaC h c (by simpa using a)
def ZdR(h:Heap):((Bf h).fault==0&&((Bf h).page==0&&(Bf h).addr==0))=Lb (Bf h=⟨0,0,0⟩):=by
 cases Bf h with|mk a b c=>by_cases d:a=0<;>by_cases e:b=0<;>by_cases f:c=0<;>simp[d,e,f]
def Oh(h:Heap)(hw:Zy h.W):GP 122 [h.av] O (bL (Lb (Bf h=⟨0,0,0⟩))) []:=by have a:=ZdR h;exact gF [] func122 [O]<|Fc 4 (@Zlc h aa)<|Fa (a:((Bf h).fault==0&&((Bf h).page==0&&(Bf h).addr==0))=Lb (Bf h=C0.mk 0 0 0)) Fz
def Gw(a:List Int)(r:Int):Bool:=(r != 0)&&!decide (r∈a)
def OM(a:List Int):AV:=.fn 126 [.rp [.sl 1 (a.map wD)] 0]
def Z71(a:List Int) r(ha:a.length<=1048576)(hs:a.Pairwise (· < ·)):GP 126 [uU r,.rp [.sl 1 (a.map wD)] 0] O (bL (Gw a r)) []:=by
 by_cases b:r=0;have e:Gw a r=La:=by simp[Gw,b]
 rw[e];exact gF [] func126 (fO 2)<|Fc 9 (@bsearch a r aa aa)<|Fa ‹(r != 0&&!decide (r∈a))=La› Fz;by_cases c:r∈a;have e:Gw a r=La:=by simp[Gw,c]
 rw[e];exact gF [] func126 (fO 2)<|Fc 9 (@bsearch a r aa aa)<|Fa ‹(r != 0&&!decide (r∈a))=La› Fz;have e:Gw a r=O:=by simp[Gw,b,c]
 rw[e];exact gF [] func126 (fO 2)<|Fc 9 (@bsearch a r aa aa)<|Fa ‹(r != 0&&!decide (r∈a))=O› Fz
def Hc(a l:List Int):Nat:=(l.takeWhile λr=>!Gw a r).length
def Pg{a l}{m:Nat}(h:m<Hc a l):m<l.length/\Gw a (l.getD m M)=La:=by obtain⟨b,c⟩:=SR _ _ _ h;refine⟨b, ?_⟩;rw[Li,LR b];simpa using c
def Z9H{a l:List Int}(h:Hc a l<l.length):Gw a (l.getD (Hc a l) M)=O:=by
 have b:=SY (λr=>!Gw a r) l h;have c:l.getD (Hc a l) M=l[(l.takeWhile λr=>!Gw a r).length]:=by(rw[Li,LR h];rfl)
 rw[c];simpa using b
def Iy(a l:List Int):Int:=if Hc a l<l.length then Hc a l else -1
def Ra(a l:List Int)(i:Nat):Tg:=⟨tm 19 [(0,Z2 l),(1,OM a),(4,nI 0),(7,nI l.length),(8,nI i)],[],60⟩
section
variable(a l:List Int)(i:Nat)(hl:l.length<=1048576)(ha:a.length<=1048576)(hs:a.Pairwise (· < ·))(hi:i<l.length)
include hl ha hs hi
theorem Z9s(e:Gw a (l.getD i M)=La):CP (Zl f172 0) (Ra a l i).st .nrm (Ra a l (i+1)).st:=by unfold Ra OM;exact sF [] []<|Fh 16 [.call O (bL (Gw a (l.getD i M))) [],.br La]<|Ftb 9 (Lb ((i:Int)<(l.length:Int)))<|Fek 14 wD l (↑i) i<|Fa (@Z71 a (l.getD i M) aa aa)<|Fa ‹Gw a (l.getD i M)=La›<|Fx 18 i Fz
theorem Zk2(e:Gw a (l.getD i M)=O):CP (Zl f172 0) (Ra a l i).st .ret (Tg.st ⟨tm 19 [(4,nI i)],[],60⟩):=by unfold Ra OM;exact sF [] []<|Fh 16 [.call O (bL (Gw a (l.getD i M))) [],.br O]<|Ftb 9 (Lb ((i:Int)<(l.length:Int)))<|Fek 14 wD l (↑i) i<|Fa (@Z71 a (l.getD i M) aa aa)<|Fa ‹Gw a (l.getD i M)=O› Fz
end
def ZgX a l:CP (Zl f172 0) (Ra a l l.length).st (.ext 0) (Tg.st ⟨tm 19 [(4,nI 0)],[],60⟩):=by unfold Ra OM;exact sF [] []<|Ffb 9 (Lb ((l.length:Int)<(l.length:Int))) Fz
def Zcp(a l:List Int)(hl:l.length<=1048576)(b:a.length<=1048576)(hs:a.Pairwise (· < ·))(h:¬ Hc a l<l.length)  := Bp (S:=λj=>(Ra a l j).st) l.length (by kernel_rfl) (λj c=>Z9s a l j hl b hs c (Pg (by omega)).2) (ZgX a l)
def Zap(a l:List Int)(hl:l.length<=1048576)(b:a.length<=1048576)(hs:a.Pairwise (· < ·))(h:Hc a l<l.length)  := Ev (S:=λj=>(Ra a l j).st) (Hc a l) (by kernel_rfl) (λj c=>Z9s a l j hl b hs (by omega) (Pg c).2) (Zk2 a l (Hc a l) hl b hs h (Z9H h))
def Zfj(a l:List Int)(hl:l.length<=1048576)(ha:a.length<=1048576)(hs:a.Pairwise (· < ·)):GP 172 [Z2 l,.fn 126 [.rp [.sl 1 (a.map wD)] 0]] O (nI (Iy a l)) []:=by by_cases h:Hc a l<l.length;have b:Iy a l=Hc a l:=if_pos h;rw[b];exact gF [] func172 []<|Fl 7 wD l<|Fu (@Zap a l aa aa aa aa) Fz;have b:Iy a l=-1:=if_neg h;rw[b];exact gF [] func172 []<|Fl 7 wD l<|Fu (@Zcp a l aa aa aa aa) Fz
def Zbt(a l:List Int)(hl:l.length<=1048576)(ha:a.length<=1048576)(hs:a.Pairwise (· < ·)):GP 125 [Z2 l,.fn 126 [.rp [.sl 1 (a.map wD)] 0]] O (bL (Lb (0<=Iy a l))) []:=by exact gF [] func125 []<|Fc 7 (@Zfj a l aa aa aa) Fz
def Zet(h:Heap) refs(hw:Zy h.W)(hg:¬ Bf h=⟨0,0,0⟩):GP 74 [h.av,Z2 refs] O (bL La) []:=by exact gF [] func74 []<|Fc 8 (@Oh h aa)<|Ftb 9 (!decide (Bf h=C0.mk 0 0 0)) Fz
def ZhZ(h:Heap) refs(hw:Zy h.W)(hg:Bf h=⟨0,0,0⟩):RJ prog 4 (H4 f74) (Tg.st ⟨tm 19 [(0,h.av),(1,Z2 refs)],[],1⟩) (Tg.st ⟨tm 19 [(1,Z2 refs),(5,.pt 24005 0 0)],[(24005,.box 25 [Z2 (Zt h).1])],20⟩):=by refine SQ [((8:Nat),[Hint.call O (bL (Lb (Bf h=C0.mk (0:Int) (0:Int) (0:Int)))) []]),((9:Nat),[Hint.br La]),((12:Nat),[Hint.call O (AV.tu [Z2 (Zt h).1,nI (Zt h).2]) []])] [] [] (φ:=GP 122 [h.av] O (bL (Lb (Bf h=C0.mk (0:Int) (0:Int) (0:Int)))) []/\(!decide (Bf h=C0.mk (0:Int) (0:Int) (0:Int)))=La/\La=La/\GP 107 [h.av] O (AV.tu [Z2 (Zt h).1,nI (Zt h).2]) []) ?_ kr kr kr kr;exact⟨(@Oh (h) aa),(by(simp only[bs];omega)),rfl,(@Pk (h) aa)⟩
def Zfr(h:Heap)(refs:List Int):((Lh refs.length).find? (HG refs (Zt h).1)).isNone = !decide (0<=Iy (Zt h).1 refs):=by
 have e:∀i,HG refs (Zt h).1 i=Gw (Zt h).1 (refs.getD i M):=by(intro i;unfold HG Gw;generalize refs.getD i M=r;by_cases f:r=0<;>by_cases g:r∈(Zt h).1<;>simp[f,g])
 by_cases a:Hc (Zt h).1 refs<refs.length;have c:Iy (Zt h).1 refs=Hc (Zt h).1 refs:=if_pos a;have d:(Lh refs.length).find? (HG refs (Zt h).1)=Lg (Hc (Zt h).1 refs):=by(rw[Ln];refine⟨by rw[e];exact Z9H a,Ld.2 a,λj b=>?_⟩;rw[e,(Pg b).2];rfl)
 rw[c,d];simp;have c:Iy (Zt h).1 refs=-1:=if_neg a;have d:(Lh refs.length).find? (HG refs (Zt h).1)=Lf:=by(rw[Ll];intro j b;have b:=Ld.1 b;rw[e,(Pg (l:=refs) (m:=j) oq).2];simp)
 rw[c,d];rfl
end Go.Proofs.YtgedmeaemofdkaaGreat
namespace Go.Proofs.YtgedmeaemofdkaaGreat
open Go.Sx Go.RowKit
def Zb2(h:Heap)(refs:List Int)(hw:Zy h.W)(hl:refs.length<=1048576)(l:Bf h=⟨0,0,0⟩):GP 74 [h.av,Z2 refs] O (bL (!decide (0<=Iy (Zt h).1 refs))) []:=by
 intro f u vs w r d;rw[<-callsIn_wide (n:=10)];refine callsIn_of_wp func74 (c:=H4 f74) kr trivial ?_ rfl;have o:vs.size=2:=r;have S0:Sx.Sys EG u f (tm 19 [(0,h.av),(1,Z2 refs)]) (Bn []) 1 {tmps:=vs++L3 (Tryz.f74.ntmps-vs.size) undef,defers:=[]} f:=by(refine⟨_,u,Sx.Inv.empty w (Lp 1),⟨by rw[o];simp[o];kernel_rfl,λk y v s i=>?_,rfl⟩⟩;rw[show tm 19 [(0,h.av),(1,Z2 refs)]=[h.av,Z2 refs]++Le 17 .any from by kernel_rfl,Xb]at s;rw[L2]at i;split at s;rename_i hk;rw[if_pos (by rw[r];exact hk)]at i;exact d k y v s i;have:=Xh s;rw[(Xi.1 this).2];exact .any _)
 generalize hR:(λe w'=>∃v,e=Ending.returned v/\Re f u O (bL (!decide (0<=Iy (Zt h).1 refs))) [] v w')=R;generalize hQ:bodyPost prog f74 R=Q;refine ZhZ h refs hw l 10 Q _ _ _ _ _ S0 ?_;rintro a1 w1 ⟨ρ1,a,j,T1⟩;obtain⟨v5,t5,r5⟩:=T1.at (t:=5) (x:=.pt 24005 0 0) rfl;obtain⟨β,m,n⟩:=j.blk 24005 _ rfl;have z:Zj (λ_=>Lf) w1 (λg=>a g\/β.g=Lg g) (.rp [.sl 1 ((Zt h).1.map wD)] 0) v5:=M3 m n r5 (λ_ h=>.inl h) (λ_ h=>.inr h);have er:rest prog 10 4 (H4 f74) Q a1 w1=(Code.region 4 (Bj f74 4) La).wpIn Fence.wide 10 prog (Exit.then (Code.ret.wpIn Fence.wide 10 prog Q) Q) a1 w1:=by kernel_rfl
 rw[er];refine wpIn_region ?_;rw[show Lh (Bj f74 4).size=[0,1,2,3,4]from by kernel_rfl];have T2:Ck [] (λ_=>Lf) w1 (λg=>a g\/β.g=Lg g) (tm 19 [(1,Z2 refs),(5,.rp [.sl 1 ((Zt h).1.map wD)] 0)]) a1:=by(have A1:Ck [] ρ1 w1 (λg=>a g\/β.g=Lg g) _ a1:=T1.mono (Sx.Ext.refl _ _) (λ_ h=>.inl h) (λ_ _ h=>h) j.bnd;have A2:=(A1.reSet 5 .any (λv _=>.any v)).pure kr;exact A2.reSet 5 (.rp [.sl 1 ((Zt h).1.map wD)] 0) (λv i=>by rw[t5]at i;cases i;exact z))
 have S2:Sx.Sys EG (λg=>a g\/β.g=Lg g) w1 (tm 19 [(1,Z2 refs),(5,.rp [.sl 1 ((Zt h).1.map wD)] 0)]) (Bn []) 20 a1 w1:=by(refine⟨_,_,Sx.Inv.empty ?_ dd,T2⟩;rintro g (l|l);exact j.imb g l;exact j.bnd _ _ g m l)
 generalize hb:Lb (0<=Iy (Zt h).1 refs)=b at hR;have hc:=Zbt (Zt h).1 refs hl (by have:=SI h;omega) (Z9j h);rw[hb]at hc;refine TH (ro:=Lf) (hints:=[(17,[Hint.call O (bL b) []])]) (out:=⟨((((tm 19 [(1,Z2 refs),(5,.rp [.sl 1 ((Zt h).1.map wD)] 0)]).set 15 (Z2 refs)).set 16 (.fn 126 [.rp [.sl 1 ((Zt h).1.map wD)] 0])).set 17 (bL b)).set 18 (bL (!b)) |>.set 4 (bL (!b)),Bn [],[GP 125 [Z2 refs,.fn 126 [.rp [.sl 1 ((Zt h).1.map wD)] 0]] O (bL b) []],[]⟩) kr S2 hc (λp hp=>by simp at hp) ?_;rintro a3 w3 ⟨ρ3,a0,I3,T3⟩;refine wpIn_ret ?_;show Q .ret a3 w3;rw[<-hQ];refine bodyPost_ret (results_tmp rfl _ _ _) T3.defers ?_;rw[<-hR];have r4:a3.tmps.getD 4 undef=.bool (!b):=BV (CU T3 (.tmp 4));rw[r4];exact⟨_,rfl,RH j.kept.no I3.kept (λ_ h=>(Sx.OwA.no h).elim),λ_=>Lf,λ_=>False,λ_ q=>q.elim,λ_ q=>q.elim,λ_ _ _ q=>(by cases q),λ_ _ _ _ _ q=>(by cases q),λ_ _ q=>(by cases q),λk B q=>by simp at q,.d (.sc _ rfl)⟩
def Z3m(h:Heap)(refs:List Int)(b:Zy h.W)(hl:refs.length<=1048576):GP 74 [h.av,Z2 refs] O (bL (Bl h refs)) []:=by
 by_cases a:Bf h=⟨0,0,0⟩;have e:Bl h refs = !decide (0<=Iy (Zt h).1 refs):=by(unfold Bl;rw[Zfr,a];simp)
 rw[e];exact Zb2 h refs b hl a;have e:Bl h refs=La:=by simp[Bl,a]
 rw[e];exact Zet h refs b a
end Go.Proofs.YtgedmeaemofdkaaGreat
namespace Go.Proofs.YtgedmeaemofdkaaGreat
open Go.Sx
def Z99{h:Heap}(a:∀i:Nat,i<h.P.length->(Ze h (i:Int)).2=0):∀(f i:Nat),i+f=h.P.length->(Ce h f i).2=0
 |0,_,_=>rfl
 |f+1,i,hf=>by
  have b:=Z99 a f (i+1) oq;unfold Ce;rw[a i oq,b];rfl
def Zdc{h:Heap}(a:Bf h=⟨0,0,0⟩):(Zt h).2=0:=by
 have e:Z8 h=O:=by(by_cases q:Z8 h=O;exact q;rw[Bf,if_neg q]at a;cases a)
 rw[Bf,if_pos e]at a;have c:∀i,i<h.P.length->(pageF h i).fault=0:=by
  intro i b;cases hb:Gi h with|some j =>rw[hb]at a;simp only at a;have:=List.find?_some hb;rw[a]at this;simp at this|none =>have:=Ll.1 hb i (Ld.2 b);simpa using this
 have d:∀i:Nat,i<h.P.length->(Ze h (i:Int)).2=0:=by(intro i b;have q:=c i b;unfold pageF at q;split at q;simp at q;split at q;simp at q;rename_i c2;simpa using c2)
 unfold Zt;rw[Cx,if_pos e];exact Z99 d h.P.length 0 oq
def Zhs(h:Heap)(hw:Zy h.W)(hp:Z8 h=La):GP 73 [h.av] La (.tu [EF.av,nI 1]) []:=by exact gF [] func73 []<|Fc 9 (@Eb h)<|Ftb 10 (!Z8 h)<|Fnl (Fnl (Fnl (Fnl (Fnl Fz))))
def Zdf(h:Heap)(hw:Zy h.W)(hp:Z8 h=O)(hg:Bf h≠⟨0,0,0⟩):GP 73 [h.av] La (.tu [EF.av,nI 19]) []:=by exact gF [] func73 []<|Fc 9 (@Eb h)<|Ffb 10 (!Z8 h)<|Fc 13 (@Oh h aa)<|Ftb 14 (!decide (Bf h=C0.mk 0 0 0))<|Fnl (Fnl (Fnl (Fnl (Fnl Fz))))
def RU(h:Heap)(l:List Z0):List (Nat×Z4):=[(8001,.box 28 [nI h.C.pw,nI h.C.pg,.ow 49027,.ow 49030,nI h.S,nI h.B]),(49030,.arr 86 4 (l.map Z0.dv)),(49027,.arr 35 1 (h.W.map wD)),(8002,.box 127 zW)]
def Tr(h:Heap)(a:List Int)(i:Nat):Tg:=⟨tm 61 [(1,.pt 8001 0 0),(2,.pt 8002 0 0),(3,nI 0),(4,Z2 a),(34,.ow 49030),(35,nI h.P.length),(36,nI i)],RU h (Zn (Zo (1-h.S)) h.P i),8⟩
section
variable(h:Heap)(a:List Int)(hs:h.S=0\/h.S=1)(hl:h.P.length<=1048576)
include hs hl
theorem ZfX(i:Nat)(q:i<h.P.length):CP (Zl f73 0) (Tr h a i).st .nrm (Tr h a (i+1)).st:=by have m:=Te (Zo (1-h.S)) h.P (Lp i) M;have hn:=NC (Zo (1-h.S)) h.P i;by_cases g:(h.P.getD i M).K=1/\0<(h.P.getD i M).N;have j:=Mh (Zo (1-h.S)) h.P q M;rw[show Zo (1-h.S) (h.P.getD i M)=⟨(h.P.getD i M).K,1-h.S,(h.P.getD i M).U,(h.P.getD i M).N⟩ by rw[Zo,if_pos g],<-m]at j;rw[<-m]at g;have o {h_ c_ p_} (n:Fq h_ c_ p_):=Ftb 37 (Lb ((i:Int)<(h.P.length:Int)))<|Fmq 40 Z0.dv (Zn (Zo (1-h.S)) h.P i) (↑i) n;rcases bb (((Zn (Zo (1-h.S)) h.P i).getD (i:Int).toNat M).K==1&&Lb (0<((Zn (Zo (1-h.S)) h.P i).getD (i:Int).toNat M).N))with hc0|hc0<;>have b:=hc0<;>simp only[bs]at b;obtain⟨c,d⟩:=b;let k:=Zn (Zo (1-h.S)) h.P i;let e:=k.getD (i:Int).toNat M;exact sF [] (fO 11) (o (Ft 48 hc0<|Fi 54 (1-h.S)<|Fm0q Z0.dv k (↑i)<|FS 10056 Z0.dv k ((i:Int).toNat) (Z0.mk e.K (1-h.S) e.U e.N) (e.dv)<|Fx 57 i<|Fr (86:Int)<|Fa (by refine congrArg _ ?_;exact j:Lc Z0.dv (k.set (i:Int).toNat (Z0.mk e.K (1-h.S) e.U e.N))=Lc Z0.dv (Zn (Zo (1-h.S)) h.P (i+1))) Fz));exact sF [] (fO 11) (o (Ff 48 hc0<|Fx 57 i<|Fr (86:Int)<|Fa (by refine congrArg _ ?_;grind[]:Lc Z0.dv (Zn (Zo (1-h.S)) h.P i)=Lc Z0.dv (Zn (Zo (1-h.S)) h.P (i+1))) Fz));have j:=P0 (Zo (1-h.S)) h.P q M (by rw[Zo,if_neg g]);rw[<-m]at g;have p {h_ c_ p_} (n:Fq h_ c_ p_):=Ftb 37 (Lb ((i:Int)<(h.P.length:Int)))<|Fmq 40 Z0.dv (Zn (Zo (1-h.S)) h.P i) (↑i) n;rcases bb (((Zn (Zo (1-h.S)) h.P i).getD (i:Int).toNat M).K==1&&Lb (0<((Zn (Zo (1-h.S)) h.P i).getD (i:Int).toNat M).N))with hc0|hc0<;>have b:=hc0<;>simp only[bs]at b;obtain⟨c,d⟩:=b;let l:=Zn (Zo (1-h.S)) h.P i;let f:=l.getD (i:Int).toNat M;exact sF [] (fO 11) (p (Ft 48 hc0<|Fi 54 (1-h.S)<|Fm0q Z0.dv l (↑i)<|FS 10056 Z0.dv l ((i:Int).toNat) (Z0.mk f.K (1-h.S) f.U f.N) (f.dv)<|Fx 57 i<|Fr (86:Int)<|Fa (by refine congrArg _ ?_;grind[]:Lc Z0.dv (l.set (i:Int).toNat (Z0.mk f.K (1-h.S) f.U f.N))=Lc Z0.dv (Zn (Zo (1-h.S)) h.P (i+1))) Fz));exact sF [] (fO 11) (p (Ff 48 hc0<|Fx 57 i<|Fr (86:Int)<|Fa (by refine congrArg _ ?_;exact j:Lc Z0.dv (Zn (Zo (1-h.S)) h.P i)=Lc Z0.dv (Zn (Zo (1-h.S)) h.P (i+1))) Fz))
omit hs hl in
theorem Zio:CP (Zl f73 0) (Tr h a h.P.length).st (.ext 0) (Tg.st ⟨tm 61 [(1,.pt 8001 0 0),(2,.pt 8002 0 0),(3,nI 0),(4,Z2 a)],RU h (h.P.map (Zo (1-h.S))),8⟩):=by have hq:=Tq (Zo (1-h.S)) h.P;have hn:=NC (Zo (1-h.S)) h.P h.P.length;exact sF [] (fO 5)<|Ffb 37 (Lb ((h.P.length:Int)<(h.P.length:Int)))<|Fr (86:Int)<|Fa (by refine congrArg _ ?_;assumption:Lc Z0.dv (Zn (Zo (1-h.S)) h.P h.P.length)=Lc Z0.dv (Lc (Zo (1-h.S)) h.P)) Fz
theorem Zhz:CP (Zk f73 0) (Tg.st ⟨tm 61 [(1,.pt 8001 0 0),(2,.pt 8002 0 0),(3,nI 0),(4,Z2 a),(34,.ow 49030),(35,nI h.P.length),(36,nI 0)],RU h h.P,8⟩) .nrm (Tg.st ⟨tm 61 [(1,.pt 8001 0 0),(2,.pt 8002 0 0),(3,nI 0),(4,Z2 a)],RU h (h.P.map (Zo (1-h.S))),8⟩):=by have:=Bp (S:=λk=>(Tr h a k).st) h.P.length kr (λk b=>ZfX h a hs hl k b) (Zio h a);simp only[Tr,Z1Z]at this;exact this
end
def Z1v(h:Heap)(hw:Zy h.W)(c:Z8 h=O)(a:Bf h=⟨0,0,0⟩):GP 73 [h.av] La (.tu [(Zs h).av,nI 0]) []:=by have po:=B5 c;have ho:=SI h;have g:=Zdc a;have b:h.P≠[]:=SS oq;exact gF [] func73 []<|Fc 9 (@Eb h)<|Ffb 10 (!Z8 h)<|Fc 13 (@Oh h aa)<|Ffb 14 (!decide (Bf h=C0.mk 0 0 0))<|Fc 18 (@Pk h aa)<|Ffb 22 ((Zt h).2 != 0)<|Fc 27 (@Mz h.W oq)<|Fc 30 (@Z0T h.P oq aa)<|Fl 35 Z0.dv h.P<|Fu (@Zhz h ((Zt h).1) oq oq)<|Fnl (Fnl Fz)
section
variable{B:Int}(hB:0<=B){h:Heap}{T:Nat->List Int}(g:Gd h T){s k:List Int}(hw:Zy h.W)(hb:∀p∈h.P,p.N<=B)(e1:(rootsF (Zs h) s).2.2=0)(e2:(Bh (rootsF (Zs h) s).1).2=0)(gs:MF h T s)(gk:MF h T k)(sl:s.length<=1000)(kl:k.length<=1000)(ks:CI k)(rt:Z2e (Zs h) s)(ln:R4 (Zs h))(al:Z09 (rootsF (Zs h) s).1)
include hB g hw hb e1 e2 gs gk sl kl ks rt ln al
theorem ZgR:Z6i h s k (Zs h) (rootsF (Zs h) s).1 (Bc h s) (Cm h s k) (Cu h s k) (BL h s k) (rootsF (Zs h) s).2.1 (G5 (Bc h s) k k.length):=by
 have ck:=cOk h s k hw g.p e1 e2;obtain⟨q1,q2,q3,q4,q5⟩:=Z2Z h s k hw g.p e1 e2;obtain⟨tq,ce,_⟩:=Z3H hB g hw hb e1 e2 (k:=k);have ok1:=(Aj (roots:=s) (R8 hw g.p) (RZ g.p) e1).1;have f2:=ck.w2.fok;refine⟨Z1v h hw g.p g.good, ?_, ?_, ?_,Zga _ k ⟨f2.W,f2.wl,by have:=f2.ql;omega,ck.i2.L,kl,ks,ck.w2.r0.2.2,λx hx=>(gk x hx).imp id λ⟨i,hi,_⟩=>?_⟩, ?_,Ziv _ q1 ⟨q2,q3⟩ q4 q5 ck.h4.2.2.2.2 (ZdN hB g k hw hb e1 e2),sl,kl,ck.f4.tl, ?_⟩
 .have:=Z3m h (s++k) hw qo;rw[g.refers (λx hx=>(Lk.1 hx).elim (gs x) (gk x))]at this;exact this
 .have:=Z4f (Zs h) s rt oq ln;rw[e1]at this;exact this
 .exact ZgF _ ok1 al
 .have:=ZaI (Cm h s k) (Z3T hB g k hw hb e1 e2).fiOk;rw[Zh6 hB g k hw hb e1 e2]at this;exact this
 .have sp:=ck.w2.sp;rw[<-ck.h4.2.2.1]at sp;exact sp
 .rw[ce.k.c,g.ofx hi]
theorem Z6I:GP 35 [h.av,Z2 s,Z2 k] La (.tu [(Zp h s k).1.av,Z2 (Zp h s k).2.1,Z2 (Zp h s k).2.2.1,.ag (Zp h s k).2.2.2.1.cells,nI (Zp h s k).2.2.2.2]) []:=by
 have a:Zp h s k=(EV (BL h s k),(rootsF (Zs h) s).2.1,G5 (Bc h s) k k.length,(BL h s k).rep,0):=by rw[Zp,if_pos g.p,if_pos ⟨g.refers gs,g.refers gk⟩,if_pos e1,if_pos e2]
 rw[a];exact Zkn (ZgR hB g hw hb e1 e2 gs gk sl kl ks rt ln al)
end
def Tj{ρ w Im v}(s:Nat)(h:Zj ρ w Im (.d (.sl 0 [])) v):Zj ρ w Im (.d (.sl s [])) v:=by
 cases h with
 |d h =>
  cases h with|slNil=>exact .d (.slNil _ _ _)|sl _ _ p n c f a=>cases a;exact .d (.slNil _ _ _)
def Z2o:Heap:=⟨⟨32,8⟩,Le 256 0,Le 8 ⟨0,0,0,0⟩,0,-1⟩
def R2:Heap:=⟨⟨32,8⟩,(Le 256 0).set 0 29,[⟨1,0,2,0⟩,⟨0,0,0,0⟩,⟨0,0,0,0⟩,⟨0,0,0,0⟩,⟨0,0,0,0⟩,⟨0,0,0,0⟩,⟨0,0,0,0⟩,⟨0,0,0,0⟩],0,0⟩
def Z7i:ZC []=⟨Z2o,[],[]⟩:=by kernel_rfl
def ZbN:(⟨Z2o,[],[]⟩:Zg).put ⟨3,1,0⟩=⟨R2,[4096],[]⟩:=by kernel_rfl
def ZkU:Z8 R2=O:=by decide+kernel
def ZaY:Bf R2=⟨0,0,0⟩:=by decide+kernel
def ZgB:Zy R2.W:=by unfold Zy;decide+kernel
def wB0:Z7:=(⟨⟨⟨32,8⟩,(Le 256 0).set 0 29,[⟨1,0,2,0⟩,⟨0,0,0,0⟩,⟨0,0,0,0⟩,⟨0,0,0,0⟩,⟨0,0,0,0⟩,⟨0,0,0,0⟩,⟨0,0,0,0⟩,⟨0,0,0,0⟩],0,0⟩,[4096],[],[],0,⟨0,0,0,0,0,0⟩⟩:Z7)
def Zbw:Zs R2=wB0:=by kernel_rfl
def ZcN:GP 15 [.d (.sl 0 [])] La (⟨(⟨⟨32,8⟩,Le 256 0,Le 8 ⟨0,0,0,0⟩,0,-1⟩:Heap),[],[]⟩:Zg).av []:=by have k:=Z2G [] pq;rw[Z7i]at k;intro w d f a b h;refine k w d f a b λi x v c e=>?_;rcases i with _|i;cases c;exact Tj 1 (h 0 _ v rfl e);simp at c
def Zir:GP 58 [.ag [nI 32,nI 8,.d (.sl 1 ((Le 256 0).map wD)),.d (.sl 4 ((Le 8 (⟨0,0,0,0⟩:Z0)).map Z0.dv)),nI 0,nI (-1),.d (.sl 0 []),.d (.sl 0 [])],.ag [nI 3,nI 1,.d (.sc (.int .u32 0))]] La (⟨(⟨⟨32,8⟩,(Le 256 0).set 0 29,[⟨1,0,2,0⟩,⟨0,0,0,0⟩,⟨0,0,0,0⟩,⟨0,0,0,0⟩,⟨0,0,0,0⟩,⟨0,0,0,0⟩,⟨0,0,0,0⟩,⟨0,0,0,0⟩],0,0⟩:Heap),[4096],[]⟩:Zg).av []:=by have j:=Z30 [];rw[Z7i]at j;have k:=TR ⟨Z2o,[],[]⟩ ⟨3,1,0⟩ (j.wm dd) dd;rw[ZbN]at k;intro w m p e f h;refine k w m p e f λi x v g l=>?_;rcases i with _|_|i;cases g;obtain⟨cs,rfl,n,o,c⟩:=Hm (h 0 _ v rfl l);refine .ag _ _ n o (λi a u b d=>?_);rcases i with _|_|_|_|_|_|_|_|i;cases b;exact c 0 _ u rfl d;cases b;exact c 1 _ u rfl d;cases b;exact c 2 _ u rfl d;cases b;exact c 3 _ u rfl d;cases b;exact c 4 _ u rfl d;cases b;exact c 5 _ u rfl d;cases b;exact Tj 1 (c 6 _ u rfl d);cases b;exact Tj 1 (c 7 _ u rfl d);cases (show(Lf:Option AV)=Lg a from b);cases g;exact h 1 _ v rfl l;simp at g
section
variable{h:Heap}{s k l:List Int}{w0 w1 w2:Z7}{x:AV}{e:Int}
theorem Z6Q(n:e≠0):Hk (Cn f35 4) (pnQ x e).st e:=by rw[show Cn f35 4=.region 5 (Bj f35 5) La from by kernel_rfl];exact Z1s n (t:=30) (o0:=(Bj f35 5).getD 0 M) (o1:=(Bj f35 5).getD 1 M) (c:=⟨.value (.func 76),#[.tmp 30],#[32]⟩) (fo:=.func 76) kr kr kr kr kr kr kr kr rfl rfl (λ_=>rfl) dd kr
theorem ZeH(n:e≠0):Hk (Cn f35 6) (pnQ x e).st e:=by rw[show Cn f35 6=.region 7 (Bj f35 7) La from by kernel_rfl];exact Z1s n (t:=39) (o0:=(Bj f35 7).getD 0 M) (o1:=(Bj f35 7).getD 1 M) (c:=⟨.value (.func 76),#[.tmp 39],#[32]⟩) (fo:=.func 76) kr kr kr kr kr kr kr kr rfl rfl (λ_=>rfl) dd kr
theorem ZhD(n:e≠0):Hk (Cn f35 8) (pnQ x e).st e:=by rw[show Cn f35 8=.region 9 (Bj f35 9) La from by kernel_rfl];exact Z1s n (t:=46) (o0:=(Bj f35 9).getD 0 M) (o1:=(Bj f35 9).getD 1 M) (c:=⟨.value (.func 76),#[.tmp 46],#[32]⟩) (fo:=.func 76) kr kr kr kr kr kr kr kr rfl rfl (λ_=>rfl) dd kr
theorem OX(n:Nat)(c:Code)(a:Gj f35 n=c){st}(h:Hk c st e):Hk (Gj f35 n) st e:=a▸h
theorem Z8W(c:O3 h e):Hk (Gj f35 2) (clX h s k).st e:=
 OX 2 (.seq (Cn f35 2) (.seq (Cn f35 3) (.seq (Cn f35 4) (Gj f35 5)))) kr (.right (pnA c) (.right (ZaD c) (.left (Z6Q (by have:=c.n;omega)))))
theorem Zkl(c:Rx h s k w0 La):Hk (Gj f35 2) (clX h s k).st 19:=
 OX 2 (.seq (Cn f35 2) (.seq (Cn f35 3) (.seq (Cn f35 4) (Gj f35 5)))) kr (.right (Z2R c) (.right (Zb9 c) (.left (Z6Q dd))))
theorem Zj8(c:Rx h s k w0 O)(t:Mk s w0 w1 l e)(n:e≠0):Hk (Gj f35 2) (clX h s k).st e:=
 OX 2 (.seq (Cn f35 2) (.seq (Cn f35 3) (.seq (Cn f35 4) (.seq (Cn f35 5) (.seq (Cn f35 6) (Gj f35 7)))))) kr (.right (Z2R c) (.right (Z4P c) (.right (pnM w0) (.right (ZaQ t) (.left (ZeH n))))))
theorem ZaH(c:Rx h s k w0 O)(t:Mk s w0 w1 l 0)(a:Z0V w1 w2 e)(n:e≠0):Hk (Gj f35 2) (clX h s k).st e:=
 OX 2 (.seq (Cn f35 2) (.seq (Cn f35 3) (.seq (Cn f35 4) (.seq (Cn f35 5) (.seq (Cn f35 6) (.seq (Cn f35 7) (.seq (Cn f35 8) (Gj f35 9)))))))) kr (.right (Z2R c) (.right (Z4P c) (.right (pnM w0) (.right (pnR t) (.right (pnN w1) (.right (pnS a) (.left (ZhD n))))))))
end
section
variable{h:Heap}{T:Nat->List Int}(g:Gd h T)
include g
theorem Gd.rt{s:List Int}(e:Bl h s=O):MF h T s:=by unfold Bl at e;rw[Lv,Option.isNone_iff_eq_none,Ll]at e;intro r b;obtain⟨i,a,rfl⟩:=BI.1 b;have:=e.2 i (Ld.2 a);unfold HG at this;rw[decide_eq_true_eq]at this;by_cases q:s.getD i M=0;exact .inl q;exact .inr ((g.objs.2 _).1 (Lx.1 λc=>this ⟨q,c⟩))
theorem CZ.it{w}(c:CZ h T w):∀k,(∀j,j<k->CN w j=La)->CZ h T (Cc w k)
 |0,_=>c
 |k+1,q=>by
  have e:=q k oq;simp only[CN,decide_eq_false_iff_not,not_or,Lx]at e;exact(CZ.it c k λj hj=>q j oq).step g e.1
theorem CZ.allT{w}(c:CZ h T w):Z3j w:=λk q=>(c.it g k q).stp g
theorem CZ.allS{w}(c:CZ h T w)(e:(Bh w).2=0):Z09 w:=by
 obtain⟨n,d⟩:=R7 c.ok;obtain⟨b,h2,f⟩:=Ln.1 d;intro k q;refine⟨c.allT g k q, ?_⟩;have hk:k<=n:=by(by_cases a:k<=n;exact a;have:=q n oq;rw[this]at b;cases b)
 by_cases a:k=n;subst a;have:=e;rw[Bh,d]at this;simp only at this;by_cases q:(ZZ (Cc w k)).2.2=0;exact q;rw[if_neg q]at this;exact this;have:=f k oq;simp only[CN,Lw,decide_eq_false_iff_not,not_or,Lx]at this;exact this.1
end
def ZjT{B:Int}(w:0<=B){h:Heap}(c:Zy h.W)(y:∀p∈h.P,p.N<=B){s k:List Int}(sl:s.length<=1000)(n:k.length<=1000)(su:CI s)(z:CI k) :GP 35 [h.av,Z2 s,Z2 k] La (.tu [(Zp h s k).1.av,Z2 (Zp h s k).2.1,Z2 (Zp h s k).2.2.1,.ag (Zp h s k).2.2.2.1.cells,nI (Zp h s k).2.2.2.2]) []:=by
 by_cases b:Z8 h=O;case neg =>
  have a:Zp h s k=(ZY,[],[],Hu,1):=by rw[Zp,if_neg b]
  rw[a];exact Tk (Z8W ⟨Zhs h c (by simpa using b),.inl rfl⟩)
 by_cases j:Bf h=⟨0,0,0⟩;case neg =>
  have nr:¬ (Bl h s=O/\Bl h k=O):=λq=>by
   have:=q.1;unfold Bl at this;rw[Lv,decide_eq_true_eq]at this;exact j this.1
  have a:Zp h s k=(ZY,[],[],Hu,19):=by rw[Zp,if_pos b,if_neg nr]
  rw[a];exact Tk (Z8W ⟨Zdf h c b j,.inr rfl⟩)
 have g:=Z4k j;by_cases e:Bl h s=O/\Bl h k=O;case neg =>
  have a:Zp h s k=(ZY,[],[],Hu,19):=by rw[Zp,if_pos b,if_neg e]
  rw[a];have f:=Z3m h (s++k) c qo;have:Bl h (s++k)=La:=by
   cases q:Bl h (s++k)with
   |false=>rfl
   |true =>
    have q:=g.rt q;exact absurd ⟨g.refers λx l=>q x (Lk.2 (.inl l)),g.refers λx l=>q x (Lk.2 (.inr l))⟩ e
  rw[this]at f;exact Tk (Zkl ⟨Z1v h c b j,f,sl,n⟩)
 have t:=g.rt e.1;have r:=g.rt e.2;have m:=CZ.begin g c;have v:=m.rts g su;have f:=Z3m h (s++k) c qo;rw[g.refers λx l=>(Lk.1 l).elim (t x) (r x)]at f;have u:Rx h s k (Zs h) O:=⟨Z1v h c b j,f,sl,n⟩;have o:=Z4f (Zs h) s v oq m.ck.ln;by_cases d:(rootsF (Zs h) s).2.2=0;case neg =>
  have a:Zp h s k=(ZY,[],[],Hu,(rootsF (Zs h) s).2.2):=by rw[Zp,if_pos b,if_pos e,if_neg d]
  rw[a];exact Tk (Zj8 u ⟨o⟩ d)
 have c1:=m.rootsF g d;by_cases i:(Bh (rootsF (Zs h) s).1).2=0;case neg =>
  have a:Zp h s k=(ZY,[],[],Hu,(Bh (rootsF (Zs h) s).1).2):=by rw[Zp,if_pos b,if_pos e,if_pos d,if_neg i]
  rw[a];rw[d]at o;exact Tk (ZaH u ⟨o⟩ ⟨ZgV _ c1.ok (c1.allT g) i⟩ i)
 exact Z6I w g c y d i t r sl n z v m.ck.ln (c1.allS g i)
def Z3v:∀l:List Z0,∃B:Int,0<=B/\∀p∈l,p.N<=B
 |[]=>⟨0,LI 0,λp c=>by cases c⟩
 |p::l=>by
  obtain⟨B,h1,b⟩:=Z3v l;refine⟨max B p.N,by omega,λq a=>?_⟩;rcases LC.1 a with rfl|a
  .omega
  .have:=b q a;omega
def Z92(h:Heap)(s k:List Int)(c:Zy h.W)(sl:s.length<=1000)(d:k.length<=1000)(f:CI s)(e:CI k) :GP 35 [h.av,Z2 s,Z2 k] La (.tu [(Zp h s k).1.av,Z2 (Zp h s k).2.1,Z2 (Zp h s k).2.2.1,.ag (Zp h s k).2.2.2.1.cells,nI (Zp h s k).2.2.2.2]) []:=by obtain⟨B,a,b⟩:=Z3v h.P;exact ZjT a c b sl d f e
def ZgK{h s k}(e:¬(Zp h s k).2.2.2.2=0):∃n,Zp h s k=(ZY,[],[],Hu,n):=by unfold Zp at e⊢;split;split;split;split;simp_all;exact⟨_,rfl⟩;exact⟨_,rfl⟩;exact⟨_,rfl⟩;exact⟨_,rfl⟩
def Z51{h:Heap}{s k:List Int}(f:Zy h.W)(sl:s.length<=1000)(kl:k.length<=1000):Zy (Zp h s k).1.W/\(Zp h s k).1.W.length<=1048576/\(Zp h s k).1.P.length<=1048576/\(Zp h s k).2.1.length<=1048576/\(Zp h s k).2.2.1.length<=1048576:=by obtain⟨B,b,d⟩:=Z3v h.P;by_cases e:(Zp h s k).2.2.2.2=0;have c:=Z8X b f d e;obtain⟨_,_,_,_,p5,_,p7,p8,_⟩:=B5 c.p1;have a1:=c.rl;have a2:=c.vl;exact⟨c.w,by omega,by omega,by omega,by omega⟩;obtain⟨n,a⟩:=ZgK e;rw[a];exact⟨SB,by simp[ZY],by simp[ZY],by simp,by simp⟩
def Cp(f:Z0->Int)(l:List Z0):Int:=(l.map f).sum
def Gs(p:Z0):Int:=if p.K=0 then 0 else 1
def Ee(p:Z0):Int:=if p.K=1 then p.U else 0
def unP(p:Z0):Int:=if p.K=1/\¬ 0<p.N then p.U else 0
def lgP(p:Z0):Int:=if p.K=2\/p.K=3 then 1 else 0
def Z1m f(p:Z0):∀(l:List Z0) (i:Nat),i<l.length->Cp f (l.set i p)+f (l.getD i M)=Cp f l+f p
 |[],i,h=>by simp at h
 |x::l,0,_=>by grind[Cp]
 |x::l,i+1,h=>by
  have:=Z1m f p l i (by simpa using h);grind[Cp]
def Z0e(f:Z0->Int){l a:List Z0}(hl:a.length=l.length)(h:∀i,i<l.length->f (a.getD i M)=f (l.getD i M)):Cp f a=Cp f l:=by unfold Cp;congr 1;refine L9 (by simpa using hl) λi h1 h2=>?_;grind
def Z55 f(l:List Z0):Cp f l=((Lh l.length).map λi=>f (l.getD i M)).sum:=by unfold Cp;congr 1;refine L9 pq λi h1 h2=>?_;grind
def RX{α:Type}{f g:α->Int}:∀{l:List α},(∀x∈l,f x<=g x)->(l.map f).sum<=(l.map g).sum
 |[],_=>by simp
 |x::l,h=>by
  have:=RX (l:=l) λy a=>h y (LD _ a);grind
def Z1e{α:Type}{f g:α->Int}{n:Int}{r:α}:∀{l:List α},(∀x∈l,f x<=g x)->r∈l->f r+n<=g r->(l.map f).sum+n<=(l.map g).sum
 |[],_,hr,_=>by simp at hr
 |x::l,h,hr,hn=>by
  have h0:=h x pq;have a:∀y∈l,f y<=g y:=λy b=>h y (LD _ b);simp only[LW,L0];rcases LC.1 hr with rfl|hr
  .have:=RX a;omega
  .have:=Z1e a hr hn;omega
def Z0D{α:Type}{f:α->Int}:∀{l:List α},(∀x∈l,0<=f x)->0<=(l.map f).sum
 |[],_=>by simp
 |x::l,h=>by
  have:=Z0D (l:=l) λy a=>h y (LD _ a);grind
def Z9B{ws}:∀{l:List Int} {a b:Int},G1 ws a b l->(l.map λx=>Zr ws x+1).sum=b-a
 |[],a,b,h=>by grind[G1]
 |x::l,a,b,h=>by
  have:=Z9B h.2.2;simp only[LW,L0,this,h.1];omega
def Z9M(l:List Z0):∀i,i<=l.length->(∃j,j<i/\(l.getD j M).K=0)->Zi l i≠[]
 |0,_,⟨j,b,_⟩=>by omega
 |i+1,hi,⟨j,b,d⟩=>by
  have a:CL l i=l.getD i M:=by grind[Z0v]
  simp only[Zi,Nl];split
  .split<;>simp
  .rename_i c;rw[a]at c;exact Z9M l i oq ⟨j,by
    grind,d⟩
def Zec{l}(h:¬ 0<=first l 1):∀j,j<l.length->(l.getD j M).K≠0:=by
 intro j a b;have hn:=Z9M l l.length (Lp _) ⟨j,a,b⟩;unfold first at h
 rw[if_neg oq]at h;have ok:=(N2 l l.length).2;cases hr:Zi l l.length<;>grind[Zi,runs,HN]
def ZjY{l:List Z0}(h:∀j,j<l.length->(l.getD j M).K≠0):Cp Gs l=l.length:=by
 rw[Z55];have:∀n,n<=l.length->((Lh n).map λi=>Gs (l.getD i M)).sum=n:=by
  intro n;induction n with|zero=>simp|succ n ih =>grind[Xj,Gs]
 grind
def wtW(h:Heap)(w:Z7)(x:Int):Int:=if(ZF (Z1 w.j.W x).1).2=O then 0 else Zr h.W x+1
def Nw(h:Heap)(T:Nat->List Int)(w:Z7)(i:Nat):Int:=if(h.P.getD i M).K=1/\¬ 0<(h.P.getD i M).N then((T i).map (wtW h w)).sum else 0
def HL(h:Heap)(T:Nat->List Int)(w:Z7):Int:=((Lh h.P.length).map (Nw h T w)).sum
structure MI (h:Heap) (T:Nat->List Int) (w:Z7):Prop where
 m0:w.j.P.length=h.P.length/\w.j.C=h.C
 m1:Cp Ee h.P<=Cp Ee w.j.P
 m2:0<w.T.length->((w.T.length:Int)-1)*(h.C.pw/4*3+1)+(w.j.P.getD (ZG w).toNat M).U<=Cp Ee w.j.P-Cp Ee h.P
 m3:Cp Ee w.j.P+HL h T w<=Cp Ee h.P+Cp unP h.P
 m4:Cp Gs w.j.P=Cp Gs h.P+w.T.length
 m5:∀i,i<h.P.length->(h.P.getD i M).K=1->((w.j.P.getD i M).S=w.j.S↔¬ 0<(h.P.getD i M).N)
def Z23(h:Heap) w(x:Int):0<=wtW h w x/\wtW h w x<=Zr h.W x+1:=by have:=BQ h.W x;grind[wtW]
def ZdH{h T}{w w':Z7}(e:w'.j.W=w.j.W):HL h T w'=HL h T w:=by unfold HL Nw wtW;rw[e]
def Ze2{h T}(g:Gd h T)(w:Z7):HL h T w<=Cp unP h.P:=by rw[Z55];refine RX λi a=>?_;have a:=Ld.1 a;unfold Nw unP;split;rename_i k;have t:=Z9B (g.t1 i a k.1).1;have:=RX (l:=T i) (f:=wtW h w) (g:=λx=>Zr h.W x+1) λx _=>(Z23 h w x).2;omega;omega
def Zci{h:Heap}{T:Nat->List Int}{w w'}{n r:Int}{a:Nat}(d:a<h.P.length)(e:(h.P.getD a M).K=1/\¬ 0<(h.P.getD a M).N)(g:r∈T a)(c:∀i x,x∈T i->wtW h w' x<=wtW h w x)(f:wtW h w' r+n<=wtW h w r):HL h T w'+n<=HL h T w:=by refine Z1e (r:=a) (λi d=>?_) (Ld.2 d) ?_;unfold Nw;split;exact RX λx b=>c i x b;omega;unfold Nw;rw[if_pos e,if_pos e];exact Z1e (λx b=>c a x b) g f
def MI.begin{h T}(g:Gd h T):MI h T (Zs h):=by
 have e:∀i,i<h.P.length->(((Zs h).j.P.getD i M).K=(h.P.getD i M).K/\((Zs h).j.P.getD i M).U=(h.P.getD i M).U):=by grind[Zs,Zo]
 have l:(Zs h).j.P.length=h.P.length:=by simp[Zs]
 have e1:Cp Ee (Zs h).j.P=Cp Ee h.P:=Z0e Ee l λi a=>by grind[Ee]
 have e2:Cp Gs (Zs h).j.P=Cp Gs h.P:=Z0e Gs l λi a=>by grind[Gs]
 have r:=Ze2 g (Zs h);refine⟨⟨l,rfl⟩,by omega,by simp[Zs],by omega,by grind[Zs],λi a hk=>?_⟩;have sp:=g.sp i a oq;grind[Zs,Zo]
def MI.keep{h T w}(m:MI h T w) r:MI h T (w.keep r):=⟨m.m0,m.m1,m.m2,m.m3,m.m4,m.m5⟩
def MI.flip{h T r w}(m:MI h T w)(k:KI h T r w){i:Nat}(h2:(w.j.P.getD i M).K=2):MI h T (w.flip i):=by
 have e:∀j,((w.flip i).j.P.getD j M).K=(w.j.P.getD j M).K/\((w.flip i).j.P.getD j M).U=(w.j.P.getD j M).U:=by(intro j;simp only[Z7.flip];by_cases b:j<w.j.P.length;rw[Ht b];split<;>exact⟨rfl,rfl⟩;grind[GY])
 have l:(w.flip i).j.P.length=w.j.P.length:=by simp[Z7.flip,GY]
 have a:Cp Ee (w.flip i).j.P=Cp Ee w.j.P:=Z0e Ee l λj _=>by grind[Ee]
 have f:Cp Gs (w.flip i).j.P=Cp Gs w.j.P:=Z0e Gs l λj _=>by grind[Gs]
 have g:HL h T (w.flip i)=HL h T w:=ZdH rfl;have c:(w.flip i).T=w.T:=rfl;have el:ZG (w.flip i)=ZG w:=rfl;refine⟨⟨by rw[l];exact m.m0.1,m.m0.2⟩,by rw[a];exact m.m1, ?_,by rw[a,g];exact m.m3,by rw[f,c];exact m.m4,λj b d=>?_⟩;rotate_left;have n:=m.m0.1;have o:(j:Int)∉w.T:=λq=>by have:=(k.tk j q).2.1;omega
 have p:=(k.pg j o).1;rw[d]at p;have:(w.flip i).j.P.getD j M=w.j.P.getD j M:=by(simp only[Z7.flip];rw[Ht oq,if_neg];rintro⟨q1,q2⟩;by_cases q:j=i;subst q;omega;have:=(Rw (l:=w.j.P) (i:=i) (m:=j-i-1) oq).2;grind)
 rw[this];exact m.m5 j b d;intro q;rw[c,el,(e _).2,a];exact m.m2 q
def MI.copy{h T tq w}(g:Gd h T)(m:MI h T w)(k:KI h T tq w)(hw:Ba w){r n:Int}{s}(o:r∈T s)(h1:(h.P.getD s M).K=1)(a3:¬ 0<(h.P.getD s M).N)(ht:(ZF (Z1 w.j.W r).1).2=La)(hn:n=Zr w.j.W r+1)(hc:(w.place n).2.2=O):MI h T ((w.place n).1.copy r (w.place n).2.1 n):=by
 have he:(Z1 w.j.W r).1=(Z1 h.W r).1:=by(rcases k.hd s r o with q|q;exact q;grind)
 have a8:=BQ w.j.W r;have a5:Zr w.j.W r=Zr h.W r:=(Hb he).2.1;have y:=(g.t0 s r o).1;have b2:=(g.t1 s y h1).2 r o;have po:=B5 g.p;have sw:=Rn po.1;have hv:=BF.1 po.1;have a1:n<=w.j.C.pw:=by rw[k.c];omega
 obtain⟨i,p,t,p1,p2,p3,p4,p5,p6,p7,e⟩:=OG hw ⟨by omega,a1⟩ hc;have v:=k.c;have a7:=g.inw o;have d:(h.P.getD i M).K=0:=by(rcases p2 with q|q;by_cases c:(i:Int)∈w.T;exact(k.tk i c).2.1;rw[<-(k.pg i c).1];exact q.1;exact(k.tk i q.1).2.1)
 have b0:=k.pl;have b3:=k.wl;have a0:=ED (i:=i) (j:=h.C.pg) (pw:=h.C.pw) oq oq;rw[LL h.C.pg]at a0;have a6:0<=(i:Int)*h.C.pw:=Ly oq oq;have hx:∀j x,x∈T j->x≠r->(Z1 (BY (moveA w.j.W (w.place n).2.1 r n).1 r (4*(w.place n).2.1+2)).1 x).1=(Z1 w.j.W x).1:=by(intro j x hx a9;have u:=g.free (show i<h.P.length by omega) (Or.inl d) hx;rw[Cg,if_pos d]at u;have r1:=BQ h.W x;unfold ZN at u;rw[p7,v];rw[v]at p5;have f:=g.free (show i<h.P.length by omega) (Or.inl d) o;rw[Cg,if_pos d]at f;unfold ZN at f;obtain⟨m1,m2,m3⟩:=Sl (ws:=w.j.W) (a:=4+4092+(i:Int)*h.C.pw+Cg (w.j.P.getD i M)) (b:=r) (n:=n) oq oq oq;rw[show(4:Int)+4092+(i:Int)*h.C.pw=4096+(i:Int)*h.C.pw by omega]at m1 m2 m3;grind[GJ])
 have b1:(ZF (Z1 (BY (moveA w.j.W (w.place n).2.1 r n).1 r (4*(w.place n).2.1+2)).1 r).1).2=O:=by grind[Sl,Ab,O8]
 have ew:((w.place n).1.copy r (w.place n).2.1 n).j.W=(BY (moveA w.j.W (w.place n).2.1 r n).1 r (4*(w.place n).2.1+2)).1:=by(rw[e];rfl)
 have a2:HL h T ((w.place n).1.copy r (w.place n).2.1 n)+n<=HL h T w:=by(refine Zci y ⟨h1,a3⟩ o (λj x b4=>?_) ?_;grind[wtW];grind[wtW])
 have l:((w.place n).1.copy r (w.place n).2.1 n).j.P=w.j.P.set i p:=by rw[e];rfl
 have eT:((w.place n).1.copy r (w.place n).2.1 n).T=t:=by rw[e];rfl
 have eL:ZG ((w.place n).1.copy r (w.place n).2.1 n)=t.getD ((t.length:Int)-1).toNat M:=by grind[ZG]
 have s1:=Z1m Ee p w.j.P i p1;have s2:=Z1m Gs p w.j.P i p1;have u1:Ee p=p.U:=by grind[Ee]
 have z1:Gs p=1:=by rw[Gs,if_neg oq]
 have m1:=m.m1;have m3:=m.m3;have m4:=m.m4;have a4:0<=((w.T.length:Int))*(h.C.pw/4*3+1):=Ly oq oq;have h5:∀j,j<h.P.length->(h.P.getD j M).K=1->((((w.place n).1.copy r (w.place n).2.1 n).j.P.getD j M).S=((w.place n).1.copy r (w.place n).2.1 n).j.S↔¬ 0<(h.P.getD j M).N):=by
  intro j hj hk;have eS:((w.place n).1.copy r (w.place n).2.1 n).j.S=w.j.S:=by rw[e];rfl
  rw[l,eS,CV p1,if_neg (by grind)];exact m.m5 j hj hk
 rcases p2 with⟨q1,q2,q3⟩|⟨q1,q2,q3,q4⟩;have u2:Ee (w.j.P.getD i M)=0:=by rw[Ee,if_neg oq]
 have z2:Gs (w.j.P.getD i M)=0:=by grind[Gs]
 have oc:Cg (w.j.P.getD i M)=0:=by grind[Cg]
 rw[oc]at p4;have hu:Cp Ee (w.j.P.set i p)=Cp Ee w.j.P+n:=by omega
 refine⟨⟨by grind,by rw[e];exact m.m0.2⟩,by rw[l];omega, ?_,by rw[l];omega,by grind[Xd],h5⟩;intro _;rw[eL,l,eT,hu,q2];have el:(w.T++[(i:Int)]).getD ((((w.T++[(i:Int)]).length:Nat):Int)-1).toNat M=i:=by simp_all
 rw[el,LN,CV p1,if_pos rfl,List.length_append,Xd];rw[show(((w.T.length+1:Nat):Int)-1)=w.T.length by omega];by_cases z:0<w.T.length;have m2:=m.m2 z;have nf:¬ E6 w n:=by grind[Z7.place]
 grind[E6];grind
 .have u2:Ee (w.j.P.getD i M)=(w.j.P.getD i M).U:=by grind[Ee]
  have z2:Gs (w.j.P.getD i M)=1:=by rw[Gs,if_neg oq]
  have oc:Cg (w.j.P.getD i M)=(w.j.P.getD i M).U:=by rw[Cg,if_neg oq]
  rw[oc]at p4;have hu:Cp Ee (w.j.P.set i p)=Cp Ee w.j.P+n:=by omega
  refine⟨⟨by grind,by rw[e];exact m.m0.2⟩,by rw[l];omega, ?_,by rw[l];omega,by grind,h5⟩;intro z;rw[eT,q3]at z;have m2:=m.m2 z;rw[eL,l,eT,hu,q3];rw[CV p1];show((w.T.length:Int)-1)*_+Z0.U (if i=(ZG w).toNat then p else w.j.P.getD (ZG w).toNat M)<=_;split;all_goals grind
structure MV (h:Heap):Prop where
 v:Cp Ee h.P+Cp lgP h.P*h.C.pw<=h.C.pg/4*h.C.pw
 n:∃t:Int,Cp Gs h.P<=h.C.pg/4+Cp lgP h.P+t/\(t-1)*(h.C.pw/4*3+1)<=Cp Ee h.P
def Z1q{α:Type}{f:α->Int}{r:α}:∀{l:List α},(∀x∈l,0<=f x)->r∈l->f r<=(l.map f).sum
 |[],_,hr=>by simp at hr
 |x::l,h,hr=>by
  have h0:=h x pq;have a:∀y∈l,0<=f y:=λy b=>h y (LD _ b);simp only[LW,L0];rcases LC.1 hr with rfl|hr
  .have:=Z0D a;omega
  .have:=Z1q a hr;omega
def Zco{t t' s q L U nz pg:Int}(hs:4<=s)(hq:2<=q)(a:4*q<=pg)(hL:0<=L)(ht:0<=t)(h1:pg=nz+t)(h2:t*(s*3+1)<=U-1)(h3:nz<=q+L+t')(h4:(t'-1)*(s*3+1)<=U)(h5:U+L*(s*4)<=q*(s*4)):False:=by
 have e2:t*(s*3+1)=3*t*s+t:=by grind
 have e4:(t'-1)*(s*3+1)=3*(t'-1)*s+(t'-1):=by grind
 have e5:q*(s*4)-L*(s*4)=4*(q-L)*s:=by grind
 have a1:3*t<4*(q-L):=by(by_cases c:3*t<4*(q-L);exact c;have:=LM (show 4*(q-L)<=3*t by omega) (show 0<=s by omega);omega)
 have a2:3*(t'-1)<4*(q-L):=by(by_cases c:3*(t'-1)<4*(q-L);exact c;have:=LM (show 4*(q-L)<=3*(t'-1) by omega) (show 0<=s by omega);omega)
 omega
def MI.unp{h T i w}(m:MI h T w)(k:KI h T i w){r o:Int}{a:Nat}(b:Z3 w.j.C r=((a:Int),o,0))(d:(a:Int)∉w.T)(e:a<h.P.length)(k1:(h.P.getD a M).K=1)(c4:¬ ZJ w (Z3 w.j.C r).1=O):¬ 0<(h.P.getD a M).N:=by intro f;apply c4;have g:=m.m0.1;have q:=(m.m5 a e k1);have kk:=(k.pg a d).1;simp only[ZJ,decide_eq_true_eq];rw[b];simp only[LN];exact⟨by omega,by omega,by omega,λc=>(q.1 c) f,d⟩
section
variable{h:Heap}{T tq:Nat->List Int}{w:Z7}(g:Gd h T)(m:MI h T w)(k:KI h T tq w)(d:Ba w)(f:MV h)
include g m k d f
theorem MI.room{r n:Int}{e}(y:r∈T e)(h1:(h.P.getD e M).K=1)(a3:¬ 0<(h.P.getD e M).N)(ht:(ZF (Z1 w.j.W r).1).2=La)(hn:n=Zr w.j.W r+1):(w.place n).2.2=O:=by
 have he:(Z1 w.j.W r).1=(Z1 h.W r).1:=by(rcases k.hd e r y with q|q;exact q;rw[q.1]at ht;cases ht)
 have a5:=BQ w.j.W r;have a4:Zr w.j.W r=Zr h.W r:=(Hb he).2.1;have o:=(g.t0 e r y).1;have a6:=(g.t1 e o h1).2 r y;have po:=B5 g.p;have sw:=Rn po.1;have hv:=BF.1 po.1;have a1:h.C.pw=h.C.pw/4*4:=by(have:=hv.2.2.1;rw[Int.tmod_eq_emod_of_nonneg oq]at this;omega)
 by_cases u:E6 w n;rw[Z7.place,if_pos u];by_cases hg:0<=ZP w;rw[Z7.place,if_neg u,if_pos hg];exfalso;have nz:=ZjY (Zec (l:=w.j.P) hg);have m0:=m.m0;have m1:=m.m1;have m3:=m.m3;have m4:=m.m4;have a0:=d.pl;rw[m0.2]at a0;have a2:n<=HL h T w:=by
  have a:Nw h T w e<=HL h T w:=Z1q (λi _=>by
   unfold Nw;split;exact Z0D λx _=>(Z23 h w x).1;exact LI _) (Ld.2 o)
  have b:wtW h w r<=Nw h T w e:=by(unfold Nw;rw[if_pos ⟨h1,a3⟩];exact Z1q (λx _=>(Z23 h w x).1) y)
  unfold wtW at b;rw[if_neg (by rw[ht];simp)]at b;omega
 have a7:Cp unP h.P<=Cp Ee h.P:=RX λp hp=>by(obtain⟨j,hj,rfl⟩:=List.getElem_of_mem hp;have pp:=EL g.p hj;rw[Li,LR hj,LG]at pp;unfold unP Ee;split;rename_i c;rw[if_pos c.1];omega;split<;>omega)
 have hL:0<=Cp lgP h.P:=Z0D λp _=>by unfold lgP;split<;>omega
 have h2:(w.T.length:Int)*(h.C.pw/4*3+1)<=Cp Ee h.P-1:=by
  by_cases z:0<w.T.length;have m2:=m.m2 z;unfold E6 at u;rw[m0.2]at u;have hq:h.C.pw/4*3+1<=(w.j.P.getD (ZG w).toNat M).U:=by omega
  rw[show(w.T.length:Int)*(h.C.pw/4*3+1)=((w.T.length:Int)-1)*(h.C.pw/4*3+1)+(h.C.pw/4*3+1) by rw[Int.sub_mul];omega];omega;have:w.T.length=0:=by omega
  rw[this];simp;omega
 obtain⟨t',n1,n2⟩:=f.n;have v:=f.v;exact Zco (s:=h.C.pw/4) (q:=h.C.pg/4) (pg:=h.C.pg) (nz:=Cp Gs h.P) (L:=Cp lgP h.P) (U:=Cp Ee h.P) (t:=w.T.length) (t':=t') oq oq oq hL oq oq h2 n1 n2 (by rw[<-a1];exact v)
theorem MI.fwd_ok(hi:Bw w){r:Int}(n:r=0\/r∈w.Q\/r∈w.old):(w.fwd r).2.2=0:=by
 unfold Z7.fwd;by_cases c1:r=0\/r∈w.Q;rw[if_pos c1];rw[if_neg c1];have c2:r∈w.old:=by(rcases n with q|q|q;exact absurd (Or.inl q) c1;exact absurd (Or.inr q) c1;exact q)
 rw[if_neg (by simpa using c2)];obtain⟨a,c,l⟩:=(k.old r).1 c2;have b:Z3 w.j.C r=((a:Int),r-ZN h a,0):=by rw[k.c];exact g.ofx c
 by_cases c3:(ZF (Z1 w.j.W r).1).2=O;rw[if_pos c3];rw[if_neg c3,if_neg (by rw[b];simp)];by_cases c4:ZJ w (Z3 w.j.C r).1=O;rw[if_pos c4];rw[if_neg c4];by_cases e:(w.j.P.getD (Ct w r) M).K=2;rw[if_pos e];rw[if_neg e];have i:Ct w r=a:=by rw[Ct,b];simp
 rw[i]at e;have j:=k.nt g c;have k1:(h.P.getD a M).K=1:=by(have:=(g.t0 a r c).2;rw[<-(k.pg a j).1]at this⊢;omega)
 have:=m.room g k d f c k1 (m.unp k b j (g.t0 a r c).1 k1 c4) (by simpa using c3) rfl;rw[<-GA w r]at this;rw[if_neg (by rw[this];simp)]
theorem MI.fwd(hi:Bw w){r}(e:(w.fwd r).2.2=0):MI h T (w.fwd r).1:=by
 unfold Z7.fwd at e⊢;by_cases c1:r=0\/r∈w.Q;rw[if_pos c1];exact m;rw[if_neg c1]at e⊢;by_cases c2:r∈w.old;rw[if_neg (by simpa using c2)]at e⊢;obtain⟨a,c,p⟩:=(k.old r).1 c2;have b:Z3 w.j.C r=((a:Int),r-ZN h a,0):=by rw[k.c];exact g.ofx c
 by_cases c3:(ZF (Z1 w.j.W r).1).2=O;rw[if_pos c3];exact m;rw[if_neg c3,if_neg (by rw[b];simp)]at e⊢;by_cases c4:ZJ w (Z3 w.j.C r).1=O;rw[if_pos c4];exact m.keep r;rw[if_neg c4]at e⊢;by_cases j:(w.j.P.getD (Ct w r) M).K=2;rw[if_pos j];exact(m.flip k j).keep r;rw[if_neg j]at e⊢;have n:Ct w r=a:=by rw[Ct,b];simp
 rw[n]at j;have o:=k.nt g c;have k1:(h.P.getD a M).K=1:=by(have:=(g.t0 a r c).2;rw[<-(k.pg a o).1]at this⊢;omega)
 have i:=m.unp k b o (g.t0 a r c).1 k1 c4;have l:=m.room g k d f c k1 i (by simpa using c3) rfl;rw[<-GA w r]at l;rw[if_neg (by rw[l];simp)];exact m.copy g k d c k1 i (by simpa using c3) (GA w r) l;rw[if_pos c2]at e;simp at e
end
def ZhJ{ws:List Int}{a b n k:Int}(ha:4096<=a/\a-4096+n<=ws.length)(e:4096<=b/\b-4096+n<=ws.length)(hk:0<=k/\k<n):Z1 (moveA ws a b n).1 (a+k)=((Z1 ws (b+k)).1,0):=by
 have c:BU ws b n=((ws.drop (b-4096).toNat).take n.toNat,0):=by rw[BU,if_neg oq,if_pos e]
 have d:moveA ws a b n=ZU ws a ((ws.drop (b-4096).toNat).take n.toNat):=by rw[moveA,c];simp
 have hl:((ws.drop (b-4096).toNat).take n.toNat).length=n.toNat:=by simp;omega
 rw[d,Dc oq oq];congr 1;unfold Z1;rw[if_pos oq];simp only[Li];rw[show a+k-a=k by omega,List.getElem?_take_of_lt oq,LB];rw[show(b-4096).toNat+k.toNat=(b+k-4096).toNat by omega]
def Ge(w:Z7)(y:Int):Int:=if y∈w.Q then y else if(ZF (Z1 w.j.W y).1).2=O then(ZF (Z1 w.j.W y).1).1 else 0
structure Tt (h:Heap) (T:Nat->List Int) (w:Z7) (r:Int) (i0:Nat) (w':Z7) (a:Int):Prop where
 b:4096<=a
 q:w'.Q=w.Q++[a]
 n:w'.rep.copied+w'.rep.kept=w.rep.copied+w.rep.kept+1
 o:w'.old=w.old
 l:w'.j.W.length=w.j.W.length
 s:((h.P.getD i0 M).K=2\/0<(h.P.getD i0 M).N)↔a=r
 e:a-4096+Zr h.W r<w.j.W.length
 f:a=r->w'.j.W=w.j.W
 c:a≠r->ZF (Z1 w'.j.W r).1=(a,O)
 t:∀j x,x∈T j->x≠r->a≠x/\Z1 w'.j.W x=Z1 w.j.W x
 x:∀k,0<=k->k<=Zr h.W r->(Z1 w'.j.W (a+k)).1=(Z1 w.j.W (r+k)).1
section
variable{h:Heap}{T tq:Nat->List Int}{w:Z7}(g:Gd h T)(m:MI h T w)(k:KI h T tq w)(d:Ba w)(f:MV h)
include g m k d f
theorem ZcT{r:Int}{l}(y:r∈T l)(a7:Gl h.W r≠0)(hq:r∉w.Q)(ht:(ZF (Z1 w.j.W r).1).2=La) :(w.fwd r).2.2=0/\Tt h T w r l (w.fwd r).1 (w.fwd r).2.1:=by
 have ho:r∈w.old:=(k.old r).2 ⟨l,y,a7⟩;have b6:=g.inw y;have on:=g.on y;have b7:=BQ h.W r;have he:(Z1 w.j.W r).1=(Z1 h.W r).1:=by(rcases k.hd l r y with q|q;exact q;rw[q.1]at ht;cases ht)
 have b2:Zr w.j.W r=Zr h.W r:=(Hb he).2.1;have nt:=k.nt g y;have pg:=k.pg l nt;have wl:=k.wl;have c1:¬ (r=0\/r∈w.Q):=by(rintro(q|q);omega;exact hq q)
 have s:Z3 w.j.C r=((l:Int),r-ZN h l,0):=by rw[k.c];exact g.ofx y
 have a0:Ct w r=l:=by rw[Ct,s];simp
 by_cases c4:ZJ w (Z3 w.j.C r).1=O;have ef:w.fwd r=(w.keep r,r,0):=by rw[Z7.fwd,if_neg c1,if_neg (by simpa using ho),if_neg (by rw[ht];simp),if_neg (by rw[s];simp),if_pos c4]
 rw[ef];show(0:Int)=0/\Tt h T w r l (w.keep r) r;have hs:(h.P.getD l M).K=2\/0<(h.P.getD l M).N:=by
  rw[s]at c4;simp only[ZJ,decide_eq_true_eq,LN]at c4;have k1:(h.P.getD l M).K=1:=by rw[<-pg.1];exact c4.2.2.1
  have:=m.m5 l on.1 k1;by_cases q:0<(h.P.getD l M).N;exact .inr q;exact absurd (this.2 q) c4.2.2.2.1
 exact⟨rfl,by omega,rfl,by simp only[Z7.keep];omega,rfl,rfl,⟨λ_=>rfl,λ_=>hs⟩,by omega,λ_=>rfl,λq=>absurd rfl q,λj x _ o=>⟨λq=>o q.symm,rfl⟩,λ_ _ _=>rfl⟩;by_cases c5:(w.j.P.getD (Ct w r) M).K=2;have ef:w.fwd r=((w.flip (Ct w r)).keep r,r,0):=by rw[Z7.fwd,if_neg c1,if_neg (by simpa using ho),if_neg (by rw[ht];simp),if_neg (by rw[s];simp),if_neg c4,if_pos c5]
 rw[ef];show(0:Int)=0/\Tt h T w r l ((w.flip (Ct w r)).keep r) r;have hs:(h.P.getD l M).K=2\/0<(h.P.getD l M).N:=by(rw[a0,pg.1]at c5;exact .inl c5)
 exact⟨rfl,by omega,rfl,by simp only[Z7.keep,Z7.flip];omega,rfl,rfl,⟨λ_=>rfl,λ_=>hs⟩,by omega,λ_=>rfl,λq=>absurd rfl q,λj x _ o=>⟨λq=>o q.symm,rfl⟩,λ_ _ _=>rfl⟩;have k1:(h.P.getD l M).K=1:=by(have:=on.2.1;rw[a0]at c5;rw[<-pg.1]at this⊢;omega)
 have a3:=m.unp k s nt on.1 k1 c4;have v:=m.room g k d f y k1 a3 ht rfl;have a8:=GA w r;have ef:w.fwd r=((w.place (Zr w.j.W r+1)).1.copy r (w.place (Zr w.j.W r+1)).2.1 (Zr w.j.W r+1),(w.place (Zr w.j.W r+1)).2.1,0):=by(rw[Z7.fwd,if_neg c1,if_neg (by simpa using ho),if_neg (by rw[ht];simp),if_neg (by rw[s];simp),if_neg c4,if_neg c5,a8,if_neg (by rw[v];simp)])
 rw[ef];show(0:Int)=0/\Tt h T w r l ((w.place (Zr w.j.W r+1)).1.copy r (w.place (Zr w.j.W r+1)).2.1 (Zr w.j.W r+1)) (w.place (Zr w.j.W r+1)).2.1;have po:=B5 g.p;have b9:=(g.t1 l on.1 k1).2 r y;have c0:=Rn po.1;have b4:=BF.1 po.1;obtain⟨i,p,t,p1,p2,p3,p4,p5,p6,p7,e⟩:=OG d ⟨by omega,by rw[k.c];omega⟩ v;have a5:=k.c;have b8:=k.pl;have a2:(h.P.getD i M).K=0:=by(rcases p2 with q|q;by_cases c:(i:Int)∈w.T;exact(k.tk i c).2.1;rw[<-(k.pg i c).1];exact q.1;exact(k.tk i q.1).2.1)
 have a6:=ED (i:=i) (j:=h.C.pg) (pw:=h.C.pw) oq oq;rw[LL h.C.pg]at a6;have b5:0<=(i:Int)*h.C.pw:=Ly oq oq;rw[a5]at p5 p7;have a4:4096+(i:Int)*h.C.pw=ZN h i:=rfl;rw[e,p7,a4];generalize hu:Cg (w.j.P.getD i M)=u at *;generalize ha:ZN h i+u=a;have b3:4096<=a/\a+(Zr w.j.W r+1)<=4096+w.j.W.length:=by omega
 have a1:∀j x,x∈T j->x+Zr h.W x<ZN h i\/ZN h i+h.C.pw<=x:=by(intro j x y;have:=g.free (show i<h.P.length by omega) (Or.inl a2) y;rw[Cg,if_pos a2]at this;omega)
 have b1:=a1 l r y;obtain⟨m1,m2,m3⟩:=Sl (ws:=w.j.W) (a:=a) (b:=r) (n:=Zr w.j.W r+1) oq oq oq;have z:4096<=r/\r<4096+(moveA w.j.W a r (Zr w.j.W r+1)).1.length:=by omega
 have o:a≠r:=by omega
 refine⟨rfl,by omega,rfl,by simp only[Z7.copy];omega,rfl, ?_,⟨λq=>?_,λq=>absurd q o⟩,by omega,λq=>absurd q o,λ_=>?_,λj x a9 b0=>?_,λj j0 j1=>?_⟩;simp only[Z7.copy];rw[DU z,m1];rcases q with q|q;omega;exact absurd q a3;simp only[Z7.copy];rw[Ab z,O8 oq oq];have fx:=a1 j x a9;have rx:=BQ h.W x;simp only[Z7.copy];exact⟨by omega,by rw[GJ z b0,m3 x oq]⟩;simp only[Z7.copy];rw[GJ z oq,ZhJ oq oq oq]
end
def MI.in1{h T v}(g:Gd h T){w}(m:MI h T w)(k:KI h T v w)(u:MV h)(f:Ba w)(c:Bw w){q j:Int}(l:q∈w.Q)(hj:0<=j/\j<Zr w.j.W q)(e:(w.fwd (Z1 w.j.W (q+1+j)).1).2.2=0):MI h T (w.in1 (q+1+j)):=by
 obtain⟨y,t⟩:=k.fwd g f c _ e;have a:=m.fwd g k f u c e;obtain⟨s,n⟩:=RQ f c _ e;have b:=n.q q l;have p:=n.l q l;have hr:=s.r q (Lt _ b);have d:4096<=q+1+j/\q+1+j<4096+(w.fwd (Z1 w.j.W (q+1+j)).1).1.j.W.length:=by omega
 obtain⟨o,f2,f3⟩:=t.field g b (j:=j) oq;have er:HL h T (w.in1 (q+1+j))<=HL h T (w.fwd (Z1 w.j.W (q+1+j)).1).1:=by(refine RX λi _=>?_;unfold Nw;split;refine RX λx r=>?_;unfold wtW;rw[show(w.in1 (q+1+j)).j.W=(BY (w.fwd (Z1 w.j.W (q+1+j)).1).1.j.W (q+1+j) (w.fwd (Z1 w.j.W (q+1+j)).1).2.1).1 from rfl,GJ d (o i x r)];omega;omega)
 have m3:=a.m3;exact⟨a.m0,a.m1,a.m2,by show Cp Ee (w.fwd (Z1 w.j.W (q+1+j)).1).1.j.P+_<=_;omega,a.m4,a.m5⟩
def Z9G{w}(h:(Z6 w).2=O):(ZF w).2=La:=by unfold Z6 at h;split at h;rename_i c;unfold Zu at c;split at c;simp only at c;unfold ZF;rw[if_neg oq];simp at c;cases h
structure OnW (h:Heap) (T:Nat->List Int) (w:Z7):Prop where
 c:CZ h T w
 m:MI h T w
 q:∀y∈w.old,Ge w y≠0->Ge w y∈w.Q
 z:∀y∈w.old,Ge w y=0->y∉w.Q/\(ZF (Z1 w.j.W y).1).2=La
 n:w.rep.copied+w.rep.kept=w.Q.length
def Z6U{h T}(g:Gd h T){y:Int}(b:y∈(Zs h).old):Ge (Zs h) y=0/\(ZF (Z1 h.W y).1).2=La:=by obtain⟨i,a,hk⟩:=((KI.begin g).old y).1 b;have t:=Z9G (g.on a).2.2.2.2.2.1;refine⟨?_,t⟩;unfold Ge;rw[if_neg (by simp[Zs]),if_neg (by show¬ (ZF (Z1 h.W y).1).2=O;rw[t];simp)]
def OnW.begin{h T}(g:Gd h T)(b:Zy h.W):OnW h T (Zs h):=
 ⟨CZ.begin g b,MI.begin g,λy a q=>absurd (Z6U g a).1 q,λy a _=>⟨by simp[Zs],(Z6U g a).2⟩,rfl⟩
section
variable{h:Heap}{T:Nat->List Int}{w:Z7}(o:OnW h T w)(g:Gd h T)(mv:MV h){r:Int}(hr:r∈w.old)
include o g mv hr
theorem OnW.new(hs:Ge w r=0):∃i0,r∈T i0/\(w.fwd r).2.2=0/\Tt h T w r i0 (w.fwd r).1 (w.fwd r).2.1:=by
 obtain⟨tq,k⟩:=o.c.k;obtain⟨i0,hx,hk⟩:=(k.old r).1 hr;have z:=o.z r hr hs;exact⟨i0,hx,ZcT g o.m k o.c.ok mv hx hk z.1 z.2⟩
theorem OnW.same(hs:Ge w r≠0):w.fwd r=(w,Ge w r,0):=by
 unfold Z7.fwd Ge at *;split at hs;rename_i q;rw[if_pos (.inr q),if_pos q];rename_i q;split at hs;rename_i a;obtain⟨tq,k⟩:=o.c.k;obtain⟨i0,b,hk⟩:=(k.old r).1 hr;have:=g.inw b;have c:¬ (r=0\/r∈w.Q):=by(rintro(c|c);omega;exact q c)
 rw[if_neg c,if_neg (by simpa using hr),if_pos a,if_neg q,if_pos a];exact absurd rfl hs
theorem OnW.seen:(w.fwd r).2.1≠0/\Ge (w.fwd r).1 r=(w.fwd r).2.1/\(∀y∈w.old,y≠r->Ge (w.fwd r).1 y=Ge w y)/\(w.fwd r).1.old=w.old /\ ((w.fwd r).1.Q.length:Int)=w.Q.length+(if Ge w r=0 then 1 else 0):=by
 by_cases a:Ge w r=0;obtain⟨i0,hx,e,N⟩:=o.new g mv hr a;have z:=o.z r hr a;have b:=N.b;obtain⟨tq,k⟩:=o.c.k;refine⟨by omega, ?_,λy i d=>?_,N.o,by rw[if_pos a,N.q];simp⟩;unfold Ge;rw[N.q];by_cases q:(w.fwd r).2.1=r;rw[if_pos (by rw[q];simp)];exact q.symm;rw[if_neg (by simp only[Lk,Lu];rintro(c|c);exact z.1 c;exact q c.symm),N.c q];simp;obtain⟨j,f,_⟩:=(k.old y).1 i;have t:=N.t j y f d;unfold Ge;rw[N.q,t.2];have:(y∈w.Q++[(w.fwd r).2.1])↔y∈w.Q:=by(simp only[Lk,Lu];exact⟨λc=>c.elim id λc=>absurd c.symm t.1,.inl⟩)
 simp only[this];rw[o.same g mv hr a];exact⟨a,rfl,λ_ _ _=>rfl,rfl,by rw[if_neg a];simp⟩
theorem OnW.fwd:OnW h T (w.fwd r).1:=by by_cases f:Ge w r=0;obtain⟨i0,hx,e,N⟩:=o.new g mv hr f;obtain⟨s1,i,l,m,s5⟩:=o.seen g mv hr;obtain⟨tq,k⟩:=o.c.k;refine⟨o.c.fwd g e,o.m.fwd g k o.c.ok mv o.c.inv e,λy a b=>?_,λy a d=>?_,by rw[N.n,o.n,N.q];simp⟩;rw[m]at a;rw[N.q];by_cases q:y=r;subst q;rw[i];simp;rw[l y a q]at b⊢;exact Ls _ (o.q y a b);rw[m]at a;by_cases q:y=r;subst q;rw[i]at d;exact absurd d s1;rw[l y a q]at d;have z:=o.z y a d;obtain⟨j,n,_⟩:=(k.old y).1 a;have t:=N.t j y n q;rw[N.q,t.2];refine⟨?_,z.2⟩;simp only[Lk,Lu];rintro(c|c);exact z.1 c;exact t.1 c.symm;rw[o.same g mv hr f];exact o
end
def AF(w:Z7):Prop:=∀x∈w.old++w.Q,(ZF (Z1 w.j.W x).1).2=La->∀j,0<=j->j<Zr w.j.W x->Bt (BZ w.j.W x) j=O->(Z1 w.j.W (x+1+j)).1=0\/(Z1 w.j.W (x+1+j)).1∈w.old++w.Q
structure SW (h:Heap) (T:Nat->List Int) (w:Z7):Prop where
 o:OnW h T w
 a:AF w
def SW.begin{h T}(g:Gd h T)(n:Zy h.W):SW h T (Zs h):=by
 refine⟨OnW.begin g n,λx o ht j b c m=>?_⟩;have a:x∈(Zs h).old:=by simpa[Zs]using o
 obtain⟨i,f,l⟩:=((KI.begin g).old x).1 a;refine(g.q i x j f l b c m).imp id λ⟨k,d,e⟩=>?_;exact Ls _ (((KI.begin g).old _).2 ⟨k,d,e⟩)
section
variable{h:Heap}{T:Nat->List Int}{w:Z7}(s:SW h T w)(g:Gd h T)(d:MV h)
include s g d
theorem SW.fwd{r:Int}(a:r=0\/r∈w.Q\/r∈w.old):(w.fwd r).2.2=0/\SW h T (w.fwd r).1/\AJ (w.fwd r).1 (w.fwd r).2.1:=by
 by_cases c1:r=0\/r∈w.Q;rw[Z7.fwd,if_pos c1];exact⟨rfl,s,c1⟩;have a:r∈w.old:=(a.resolve_left λq=>c1 (.inl q)).resolve_left λq=>c1 (.inr q);by_cases o:Ge w r=0;obtain⟨i0,hx,e,N⟩:=s.o.new g d a o;refine⟨e,⟨s.o.fwd g d a, ?_⟩,Or.inr (by rw[N.q];simp)⟩;obtain⟨tq,k⟩:=s.o.c.k;have z:=s.o.z r a o;have b:=(TC s.o.c.ok s.o.c.inv r e).2.2;have he:(Z1 w.j.W r).1=(Z1 h.W r).1:=by(rcases k.hd i0 r hx with q|q;exact q;rw[q.1]at z;cases z.2)
 have a0:Zr w.j.W r=Zr h.W r:=(Hb he).2.1;intro x y p j h0 m n;rw[N.o,N.q]at y⊢;have more:∀v,v∈w.old++w.Q->v∈w.old++(w.Q++[(w.fwd r).2.1]):=λv hv=>by(rw[<-L8];exact Ls _ hv)
 by_cases t:x=(w.fwd r).2.1;have f:=N.x 0 oq (BQ _ _).1;simp only[L5]at f;have l:BZ (w.fwd r).1.j.W x=BZ w.j.W r:=by rw[BZ,t,f];rfl
 have el:Zr (w.fwd r).1.j.W x=Zr w.j.W r:=congrArg ZB.length l;rw[l]at n;rw[el]at m;have i:=N.x (1+j) oq oq;rw[<-LH,<-LH,<-t]at i;rw[i];exact(s.a r (Ls _ a) z.2 j h0 m n).imp id (more _);have c:x∈w.old++w.Q:=by(simp only[Lk,Lu]at y⊢;rcases y with q|q|q;exact .inl q;exact .inr q;exact absurd q t)
 by_cases u:x=r;exfalso;have:=N.c λq=>t (u.trans q.symm);rw[u,this]at p;cases p;have f:=b x c (.inr u) 0 oq (BQ _ _).1;rw[L5]at f;have l:BZ (w.fwd r).1.j.W x=BZ w.j.W x:=by rw[BZ,BZ,f]
 have el:Zr (w.fwd r).1.j.W x=Zr w.j.W x:=congrArg ZB.length l;rw[l]at n;rw[el]at m;rw[f]at p;have i:=b x c (.inr u) (1+j) oq oq;rw[<-LH]at i;rw[i];exact(s.a x c p j h0 m n).imp id (more _);rw[s.o.same g d a o];exact⟨rfl,s,Or.inr (s.o.q r a o)⟩
omit g d in
theorem SW.dec(g:Gd h T){q:Int}(a:q∈w.Q):(ZF (Z1 w.j.W q).1).2=La:=Z9G (s.o.c.dec g a)
omit s g d in
theorem Zg4{w:Z7}{r}(e:(w.fwd r).2.2=0):r=0\/r∈w.Q\/r∈w.old:=by unfold Z7.fwd at e;split at e;rename_i c;exact c.imp id .inl;split at e;simp at e;rename_i c;exact .inr (.inr (Lx.1 c))
theorem SW.in1{q j:Int}(t:q∈w.Q)(h0:0<=j)(h1:j<Zr w.j.W q)(e:(w.fwd (Z1 w.j.W (q+1+j)).1).2.2=0):SW h T (w.in1 (q+1+j))/\∀x∈w.Q,x∈(w.in1 (q+1+j)).Q/\BZ (w.in1 (q+1+j)).j.W x=BZ w.j.W x:=by
 obtain⟨_,s1,to⟩:=s.fwd g d (Zg4 e);have z:=s.o.c.ok;have iv:=s.o.c.inv;obtain⟨tq,k⟩:=s.o.c.k;obtain⟨i1,x1⟩:=RQ z iv _ e;have m:=P5 z iv _ e;have n:=x1.q q t;have a0:=x1.l q t;have hr:=i1.r q (Lt _ n);have l:4096<=q+1+j/\q+1+j<4096+(w.fwd (Z1 w.j.W (q+1+j)).1).1.j.W.length:=by omega
 have v:∀x∈(w.fwd (Z1 w.j.W (q+1+j)).1).1.old++(w.fwd (Z1 w.j.W (q+1+j)).1).1.Q,∀i,0<=i->i<=Zr (w.fwd (Z1 w.j.W (q+1+j)).1).1.j.W x->x+i=q+1+j->x=q:=by(intro x f i a b c;have l1:=i1.s q (Lt _ n) x f;have l2:=i1.s x f q (Lt _ n);omega)
 have p:∀x∈(w.fwd (Z1 w.j.W (q+1+j)).1).1.old++(w.fwd (Z1 w.j.W (q+1+j)).1).1.Q,Z1 (w.in1 (q+1+j)).j.W x=Z1 (w.fwd (Z1 w.j.W (q+1+j)).1).1.j.W x:=by(intro x f;simp only[Z7.in1];rw[GJ l λc=>?_];have:=v x f 0 oq (BQ _ _).1 oq;omega)
 refine⟨⟨⟨s.o.c.in1 g t h0 h1 e,s.o.m.in1 g k d z iv t ⟨h0,h1⟩ e,λy o r=>?_,λy o hz=>?_,s1.o.n⟩, ?_⟩,λx f=>⟨m.mem f, ?_⟩⟩;have u:Ge (w.in1 (q+1+j)) y=Ge (w.fwd (Z1 w.j.W (q+1+j)).1).1 y:=by(unfold Ge;rw[p y (Ls _ o)];rfl)
 rw[u]at r⊢;exact s1.o.q y o r;have u:Ge (w.in1 (q+1+j)) y=Ge (w.fwd (Z1 w.j.W (q+1+j)).1).1 y:=by(unfold Ge;rw[p y (Ls _ o)];rfl)
 rw[u]at hz;rw[p y (Ls _ o)];exact s1.o.z y o hz;intro x f ht i a b hp;have f:x∈(w.fwd (Z1 w.j.W (q+1+j)).1).1.old++(w.fwd (Z1 w.j.W (q+1+j)).1).1.Q:=f;show _\/_∈(w.fwd (Z1 w.j.W (q+1+j)).1).1.old++(w.fwd (Z1 w.j.W (q+1+j)).1).1.Q;have e0:=p x f;have eh:BZ (w.in1 (q+1+j)).j.W x=BZ (w.fwd (Z1 w.j.W (q+1+j)).1).1.j.W x:=by rw[BZ,BZ,e0]
 have el:Zr (w.in1 (q+1+j)).j.W x=Zr (w.fwd (Z1 w.j.W (q+1+j)).1).1.j.W x:=congrArg ZB.length eh;rw[eh]at hp;rw[el]at b;rw[e0]at ht;by_cases c:x+1+i=q+1+j;have:(Z1 (w.in1 (q+1+j)).j.W (x+1+i)).1=(w.fwd (Z1 w.j.W (q+1+j)).1).2.1:=by(rw[c];simp only[Z7.in1];rw[Ab l])
 rw[this];exact to.imp id (Lt _);have:Z1 (w.in1 (q+1+j)).j.W (x+1+i)=Z1 (w.fwd (Z1 w.j.W (q+1+j)).1).1.j.W (x+1+i):=by(simp only[Z7.in1];rw[GJ l c])
 rw[this];exact s1.a x f ht i a b hp;rw[BZ,p x (Lt _ (m.mem f))];exact m.h x f
omit s g d in
theorem Z2j(h:ZB):∀n:Nat,∀x∈Ch h n,Bt h x=O
 |0,x,hx=>by cases hx
 |n+1,x,hx=>by
  unfold Ch at hx;split at hx
  .rename_i c;rcases Lk.1 hx with q|q
   .exact Z2j h n x q
   .rw[Lu.1 q];exact c
  .exact Z2j h n x hx
omit s g d in
theorem Zib(h:ZB):∀x∈Zz h,Bt h x=O:=by unfold Zz;split;exact Z2j h _;intro x a;cases a
theorem SW.inn{q:Int}(o:q∈w.Q){l:List Int}(hl:∀x∈l,(0<=x/\x<Zr w.j.W q)/\Bt (BZ w.j.W q) x=O):∀k,k<=l.length->(∀j,j<k->BW w q l j=0)/\SW h T (Bq w q l k)/\q∈(Bq w q l k).Q/\BZ (Bq w q l k).j.W q=BZ w.j.W q
 |0,_=>⟨λj m=>absurd m (LF j),s,o,rfl⟩
 |k+1,hk=>by
  obtain⟨r,f,b,i⟩:=SW.inn o hl k oq;have a:=hl _ (BI.2 ⟨k,by omega,rfl⟩);have el:Zr (Bq w q l k).j.W q=Zr w.j.W q:=congrArg ZB.length i;have p:=f.a q (Lt _ b) (f.dec g b) (l.getD k M) a.1.1 (by rw[el];exact a.1.2) (by rw[i];exact a.2);have e:BW w q l k=0:=(f.fwd g d (p.imp id λc=>(Lk.1 c).symm)).1;have n:=f.in1 g d b a.1.1 (by rw[el];exact a.1.2) e;refine⟨λj m=>?_,n.1,(n.2 q b).1,(n.2 q b).2.trans i⟩;by_cases c:j=k
  .rw[c];exact e
  .exact r j oq
theorem SW.step:(ZZ w).2.2=0/\SW h T (ZZ w).1:=by
 by_cases e:w.D<w.Q.length;have o:=s.o.c.ok.sc;have n:Bz w∈w.Q:=BI.2 ⟨w.D.toNat,by omega,rfl⟩;obtain⟨p,a,_,_⟩:=s.inn g d n (l:=B4 w) (λx f=>⟨Ad (Zv w (Bz w)) x f,Zib (Zv w (Bz w)) x f⟩) (B4 w).length (Lp _);have i:(Lh (B4 w).length).find? (λk=>Lb (BW w (Bz w) (B4 w) k≠0))=Lf:=Ll.2 λj m=>by simp[p j (Ld.1 m)]
 have b:ZZ w=(HE (Bq w (Bz w) (B4 w) (B4 w).length) (B4 w).length,O,0):=by unfold ZZ;rw[if_pos e,i]
 have c:=s.o.c.step g (by rw[b]);rw[b]at c⊢;exact⟨rfl,⟨c,⟨a.o.m.m0,a.o.m.m1,a.o.m.m2,a.o.m.m3,a.o.m.m4,a.o.m.m5⟩,a.o.q,a.o.z,a.o.n⟩,a.a⟩;have b:ZZ w=(w,La,0):=by rw[ZZ,if_neg e]
 rw[b];exact⟨rfl,s⟩
theorem SW.it:∀k,SW h T (Cc w k)|0=>s|k+1=>(SW.step (SW.it k) g d).2
theorem SW.all:(Bh w).2=0/\SW h T (Bh w).1:=by
 obtain⟨k,b⟩:=R7 s.o.c.ok;have e:=(s.it g d k).step g d;have a:Bh w=((ZZ (Cc w k)).1,0):=by rw[Bh,b];simp only[if_pos e.1]
 rw[a];exact⟨rfl,e.2⟩
end
section
variable{h:Heap}{T:Nat->List Int}(g:Gd h T)(a:MV h){s:List Int}(hs:∀r∈s,r=0\/Ob h T r)
include g a hs
theorem SW.rootsN(o:Zy h.W):∀k,k<=s.length->(∀j,j<k->E9 (Zs h) s j=0)/\SW h T (Go.Proofs.YtgedmeaemofdkaaGreat.rootsN (Zs h) s k).1/\∀i,i<k->AJ (Go.Proofs.YtgedmeaemofdkaaGreat.rootsN (Zs h) s k).1 ((Go.Proofs.YtgedmeaemofdkaaGreat.rootsN (Zs h) s k).2.getD i M)/\((Go.Proofs.YtgedmeaemofdkaaGreat.rootsN (Zs h) s k).2.getD i M=0↔s.getD i M=0)
 |0,_=>⟨λj n=>absurd n (LF j),SW.begin g o,λi m=>absurd m (LF i)⟩
 |k+1,hk=>by
  obtain⟨u,d,v⟩:=SW.rootsN o k oq;have f:=hs _ (BI.2 ⟨k,by omega,rfl⟩);obtain⟨tq,p⟩:=d.o.c.k;have b:s.getD k M=0\/s.getD k M∈(Go.Proofs.YtgedmeaemofdkaaGreat.rootsN (Zs h) s k).1.Q\/s.getD k M∈(Go.Proofs.YtgedmeaemofdkaaGreat.rootsN (Zs h) s k).1.old:=f.imp id λq=>.inr ((p.old _).2 q);obtain⟨e,r,l⟩:=d.fwd g a b;have w:=P5 d.o.c.ok d.o.c.inv _ e;have t:=Nv (Zs h) s k;refine⟨λj n=>?_,r,λi m=>?_⟩
  .by_cases q:j=k
   .rw[q];exact e
   .exact u j oq
  .simp only[Go.Proofs.YtgedmeaemofdkaaGreat.rootsN,Li];by_cases q:i=k
   .subst q;rw[LQ oq,t];simp only[Nat.sub_self,List.getElem?_cons_zero,LG];simp only[Li]at f b l;refine⟨l,λc=>?_,λc=>?_⟩
    .rcases f with q|q
     .exact q
     .have:=(d.o.seen g a ((p.old _).2 q)).1;exact absurd c this
    .rw[c,Z7.fwd,if_pos (.inl rfl)]
   .rw[LO oq];have:=v i oq;simp only[Li]at this;exact⟨w.to this.1,this.2⟩
theorem SW.roots(c:Zy h.W):rootsF (Zs h) s=((Go.Proofs.YtgedmeaemofdkaaGreat.rootsN (Zs h) s s.length).1,(Go.Proofs.YtgedmeaemofdkaaGreat.rootsN (Zs h) s s.length).2,0)/\SW h T (rootsF (Zs h) s).1:=by
 obtain⟨d,f,i3⟩:=SW.rootsN g a hs c s.length (Lp _);have e:rootsF (Zs h) s=((Go.Proofs.YtgedmeaemofdkaaGreat.rootsN (Zs h) s s.length).1,(Go.Proofs.YtgedmeaemofdkaaGreat.rootsN (Zs h) s s.length).2,0):=by(unfold rootsF;rw[Ll.2 λj b=>by simp[d j (Ld.1 b)]])
 rw[e];exact⟨rfl,f⟩
end
def Zj6{B:Int}(hB:0<=B){h:Heap}{T:Nat->List Int}(g:Gd h T)(mv:MV h){s k:List Int}(hw:Zy h.W)(hb:∀p∈h.P,p.N<=B)(gs:MF h T s)(gk:MF h T k)(sl:s.length<=1000)(kl:k.length<=1000)(su:CI s)(ku:CI k) :(Zp h s k).2.2.2.2=0/\(Zp h s k).2.1.length=s.length/\(Zp h s k).2.2.1.length=k.length/\GP 35 [h.av,Z2 s,Z2 k] La (.tu [(Zp h s k).1.av,Z2 (Zp h s k).2.1,Z2 (Zp h s k).2.2.1,.ag (Zp h s k).2.2.2.1.cells,nI (Zp h s k).2.2.2.2]) []:=by
 obtain⟨er,sw⟩:=SW.roots g mv gs hw;have e1:(rootsF (Zs h) s).2.2=0:=by rw[er]
 have e2:=(sw.all g mv).1;have c0:=CZ.begin g hw;have cd:=Z6I hB g hw hb e1 e2 gs gk sl kl ku (c0.rts g su) c0.ck.ln λk _=>⟨(sw.it g mv k).o.c.stp g,((sw.it g mv k).step g mv).1⟩
 have e7:Zp h s k=(EV (BL h s k),(rootsF (Zs h) s).2.1,G5 (Bc h s) k k.length,(BL h s k).rep,0):=by rw[Zp,if_pos g.p,if_pos ⟨g.refers gs,g.refers gk⟩,if_pos e1,if_pos e2]
 refine⟨by rw[e7], ?_,by rw[e7];exact Tx _ _ _,cd⟩;rw[e7,er];exact Nv _ _ _
def Z43:Bh wB0=(wB0,0):=by have a:(Lh (NV wB0)).find? (CN wB0)=Lg 0:=Ln.2 ⟨by kernel_rfl,Ld.2 (by unfold NV;omega),λj b=>absurd b (LF j)⟩;unfold Bh;rw[a];show _=_;kernel_rfl
def Zck:Heap:=⟨⟨32,8⟩,Le 256 0,Le 8 ⟨0,0,0,0⟩,1,-1⟩
def ZcY:Zp R2 [] []=(Zck,[],[],⟨0,0,0,1,0,0⟩,0):=by
 have a:rootsF (Zs R2) []=(wB0,[],0):=by rw[Zbw];kernel_rfl
 have c2:Bc R2 []=wB0:=by rw[Bc,a,Z43]
 have b:BL R2 [] []=⟨⟨⟨32,8⟩,Le 256 0,Le 8 ⟨0,0,0,0⟩,0,0⟩,[4096],[],[],0,⟨0,0,0,1,0,0⟩⟩:=by(unfold BL Cu Cm;rw[c2];kernel_rfl)
 rw[Zp,if_pos ZkU,if_pos ⟨by decide+kernel,by decide+kernel⟩,if_pos (by rw[a]),if_pos (by rw[a,Z43]),b,c2,a];show _=_;kernel_rfl
def Zhm:MV R2:=⟨by decide+kernel,1,by decide+kernel⟩
def ZiV:GP 35 [(⟨⟨32,8⟩,(Le 256 0).set 0 29,[⟨1,0,2,0⟩,⟨0,0,0,0⟩,⟨0,0,0,0⟩,⟨0,0,0,0⟩,⟨0,0,0,0⟩,⟨0,0,0,0⟩,⟨0,0,0,0⟩,⟨0,0,0,0⟩],0,0⟩:Heap).av,.d (.sl 0 []),.d (.sl 0 [])] La (.tu [(⟨⟨32,8⟩,Le 256 0,Le 8 ⟨0,0,0,0⟩,1,-1⟩:Heap).av,Z2 [],Z2 [],.ag (⟨0,0,0,1,0,0⟩:Rep).cells,nI 0]) []:=by have k:=(Zj6 (B:=0) (LI 0) (Z4k ZaY) Zhm ZgB (by decide+kernel) (s:=[]) (k:=[]) (λ_ q=>by cases q) (λ_ q=>by cases q) (Xk _) (Xk _) (λ_ q=>by cases q) (λ_ q=>by cases q)).2.2.2;rw[ZcY]at k;intro w e f b c h;refine k w e f b c λi x v a d=>?_;rcases i with _|_|_|i;cases a;exact h 0 _ v rfl d;cases a;exact Tj 1 (h 1 _ v rfl d);cases a;exact Tj 1 (h 2 _ v rfl d);simp at a
def Z4L:GP 38 [] O (bL O) []:=by exact gF [] func38 []<|Fc 7 (@ZcN)<|Fc 11 (@Zir)<|Fc 15 (@ZiV) Fz
structure SOk (w:Zg):Prop where
 W:Zy w.j.W
 wl:1<=w.j.W.length/\w.j.W.length<=4096
 pl:1<=w.j.P.length/\w.j.P.length<=64
 cw:-1000<=w.j.C.pw/\w.j.C.pw<=1000
def Cl.so{w n}(a:Cl w n):SOk w:=by have a1:=Hl a.hv;have a2:=BF.1 a.hv;have a3:=a.L;have a4:=a.pl;exact⟨a.W,by omega,by omega,by omega⟩
def EB(w:Zg)(t:Tape):Tape:=(t.step (w.j.W.length:Int)).step (w.j.P.length:Int)
def H3(w:Zg)(t:Tape):Tape:=(EB w t).step 12
def spI(w:Zg)(t:Tape):Nat:=(t.next (w.j.W.length:Int)).toNat
def spP(w:Zg)(t:Tape):Nat:=((t.step (w.j.W.length:Int)).next (w.j.P.length:Int)).toNat
def Ib(w:Zg)(t:Tape):Z0:=w.j.P.getD (spP w t) M
def MW:List Int:=[0,1,5,21,4096,4097,4112,16386,1099511627776,61]
def BM(p:Z0):Z0:=if p.K=1 then⟨p.K,p.S,p.U,1⟩else p
def spV(w:Zg)(t:Tape)(d:Int):Int:=if d<=1 then MW.getD ((H3 w t).next 10).toNat M else bits .xor .u64 (w.j.W.getD (spI w t) M) (Lj.wrap (1*2^min ((H3 w t).next 64).toNat 64))
def spQ(w:Zg)(t:Tape)(d:Int):Z0:=
 if d=3 then⟨(H3 w t).next 5,(Ib w t).S,(Ib w t).U,(Ib w t).N⟩
 else if d=4 then⟨(Ib w t).K,(H3 w t).next 3,(Ib w t).U,(Ib w t).N⟩
 else if d=5 then⟨(Ib w t).K,(Ib w t).S,(Ib w t).U+(H3 w t).next 9-4,(Ib w t).N⟩
 else⟨(Ib w t).K,(Ib w t).S,(Ib w t).U,(H3 w t).next 3-1⟩
def spH(w:Zg)(t:Tape)(d:Int):Heap:=
 if d<=2 then⟨w.j.C,w.j.W.set (spI w t) (spV w t d),w.j.P,w.j.S,w.j.B⟩
 else if d<=6 then⟨w.j.C,w.j.W,w.j.P.set (spP w t) (spQ w t d),w.j.S,w.j.B⟩
 else if d=7 then⟨w.j.C,w.j.W,w.j.P,(H3 w t).next 3,w.j.B⟩
 else if d=8 then⟨w.j.C,w.j.W,w.j.P,w.j.S,(H3 w t).next ((w.j.P.length+2:Nat):Int)-1⟩
 else if d=9 then⟨⟨w.j.C.pw+4,w.j.C.pg⟩,w.j.W,w.j.P,w.j.S,w.j.B⟩
 else if d=10 then⟨w.j.C,w.j.W,w.j.P.drop 1,w.j.S,w.j.B⟩
 else⟨w.j.C,w.j.W,w.j.P.map BM,w.j.S,w.j.B⟩
def spN(w:Zg)(d:Int):Int:=if d<=1 then 10 else if d=2 then 64 else if d=3 then 5 else if d=4 then 3 else if d=5 then 9 else if d=6 then 3 else if d=7 then 3 else if d=8 then((w.j.P.length+2:Nat):Int)else 0
def Zg.spoil(w:Zg)(t:Tape):Zg:=⟨spH w t ((EB w t).next 12),w.G,w.E⟩
def Zg.spoilT(w:Zg)(t:Tape):Tape:=if(EB w t).next 12<=8 then(H3 w t).step (spN w ((EB w t).next 12))else H3 w t
def Tb(w:Zg)(a:Tape)(i:Nat):Tg:=⟨tm 156 [(2,.pt 16002 0 0),(4,.pt 16004 0 0),(5,.pt 24005 0 0),(8,nI i)],[(0,a.b),(24005,.box 28 [nI w.j.C.pw,nI w.j.C.pg,.ow 32014,.ow 32018,nI w.j.S,nI w.j.B]),(32018,.arr 86 4 ((Zn BM w.j.P i).map Z0.dv)),(32014,.arr 35 1 (w.j.W.map wD)),(16004,.box 30 [nI 0,nI 0,.d (.sl 0 []),.d (.sl 0 []),nI 0,nI 0,.d (.sl 0 []),.d (.sl 0 [])]),(16002,.box 30 w.cells)],60⟩
def ZhR(w:Zg) g(i:Nat)(hl:w.j.P.length<=64)(f:i<w.j.P.length):CP (Zl f33 1) (Tb w g i).st .nrm (Tb w g (i+1)).st:=by have e:=Te BM w.j.P (Lp i) M;have hn:=NC BM w.j.P i;by_cases c:(w.j.P.getD i M).K=1;have d:=Mh BM w.j.P f M;rw[show BM (w.j.P.getD i M)=⟨(w.j.P.getD i M).K,(w.j.P.getD i M).S,(w.j.P.getD i M).U,1⟩ by rw[BM,if_pos c],<-e]at d;rw[<-e]at c;rcases bb (((Zn BM w.j.P i).getD (i:Int).toNat M).K==1)with hc0|hc0<;>have a:=hc0<;>simp only[bs]at a;let b:=(Zn BM w.j.P i).getD (i:Int).toNat M;exact sF [] (fO 6)<|FM 137 138 Z0.dv (Zn BM w.j.P i) i<|Fmq 146 Z0.dv (Zn BM w.j.P i) (↑i)<|Ft 147 hc0<|Fm0q Z0.dv (Zn BM w.j.P i) (↑i)<|FS 10152 Z0.dv (Zn BM w.j.P i) ((i:Int).toNat) (Z0.mk b.K b.S b.U 1) (b.dv)<|Fx 140 i<|Fr (86:Int)<|Fa (by refine congrArg _ ?_;exact d:Lc Z0.dv ((Zn BM w.j.P i).set (i:Int).toNat (Z0.mk b.K b.S b.U 1))=Lc Z0.dv (Zn BM w.j.P (i+1))) Fz;contradiction;have d:=P0 BM w.j.P f M (by rw[BM,if_neg c]);rw[<-e]at c;rcases bb (((Zn BM w.j.P i).getD (i:Int).toNat M).K==1)with hc0|hc0<;>have a:=hc0<;>simp only[bs]at a;contradiction;exact sF [] (fO 6)<|FM 137 138 Z0.dv (Zn BM w.j.P i) i<|Fmq 146 Z0.dv (Zn BM w.j.P i) (↑i)<|Ff 147 hc0<|Fx 140 i<|Fr (86:Int)<|Fa (by refine congrArg _ ?_;exact d:Lc Z0.dv (Zn BM w.j.P i)=Lc Z0.dv (Zn BM w.j.P (i+1))) Fz
def Ze6 w b:CP (Zl f33 1) (Tb w b w.j.P.length).st (.ext 1) (Tg.st ⟨tm 156 [(2,.pt 16002 0 0),(4,.pt 16004 0 0),(5,.pt 24005 0 0)],[(0,b.b),(24005,.box 28 [nI w.j.C.pw,nI w.j.C.pg,.ow 32014,.ow 32018,nI w.j.S,nI w.j.B]),(32018,.arr 86 4 ((w.j.P.map BM).map Z0.dv)),(32014,.arr 35 1 (w.j.W.map wD)),(16004,.box 30 [nI 0,nI 0,.d (.sl 0 []),.d (.sl 0 []),nI 0,nI 0,.d (.sl 0 []),.d (.sl 0 [])]),(16002,.box 30 w.cells)],60⟩):=by have hq:=Tq BM w.j.P;have hn:=NC BM w.j.P w.j.P.length;let a:=Zn BM w.j.P w.j.P.length;exact sF [] (fO 5)<|Fl 137 Z0.dv a<|Ffb 138 (Lb ((w.j.P.length:Int)<(a.length:Int)))<|Fr (86:Int)<|Fa (by refine congrArg _ ?_;assumption:Lc Z0.dv a=Lc Z0.dv (Lc BM w.j.P)) Fz
def ZhO(w:Zg)(a:Tape)(hl:w.j.P.length<=64):CP (Zk f33 1) (Tg.st ⟨tm 156 [(2,.pt 16002 0 0),(4,.pt 16004 0 0),(5,.pt 24005 0 0),(8,nI 0)],[(0,a.b),(24005,.box 28 [nI w.j.C.pw,nI w.j.C.pg,.ow 32014,.ow 32018,nI w.j.S,nI w.j.B]),(32018,.arr 86 4 (w.j.P.map Z0.dv)),(32014,.arr 35 1 (w.j.W.map wD)),(16004,.box 30 [nI 0,nI 0,.d (.sl 0 []),.d (.sl 0 []),nI 0,nI 0,.d (.sl 0 []),.d (.sl 0 [])]),(16002,.box 30 w.cells)],60⟩) .nrm (Tg.st ⟨tm 156 [(2,.pt 16002 0 0),(4,.pt 16004 0 0),(5,.pt 24005 0 0)],[(0,a.b),(24005,.box 28 [nI w.j.C.pw,nI w.j.C.pg,.ow 32014,.ow 32018,nI w.j.S,nI w.j.B]),(32018,.arr 86 4 ((w.j.P.map BM).map Z0.dv)),(32014,.arr 35 1 (w.j.W.map wD)),(16004,.box 30 [nI 0,nI 0,.d (.sl 0 []),.d (.sl 0 []),nI 0,nI 0,.d (.sl 0 []),.d (.sl 0 [])]),(16002,.box 30 w.cells)],60⟩):=by have:=Bp (S:=λk=>(Tb w a k).st) w.j.P.length kr (λk b=>ZhR w a k hl b) (Ze6 w a);simp only[Tb,Z1Z]at this;exact this
def Z8t w t(c:SOk w)(i:CY t)(ha:t.at'<=900000)(d:∀j,j<w.j.P.length->-1099511627776<=(w.j.P.getD j M).U/\(w.j.P.getD j M).U<=1099511627776):LP 33 [w.av,.pt 0 0 0] [t.b] (w.spoil t).av [(w.spoilT t).b]:=by
 have s1:=Iu (t:=t) (w.j.W.length:Int);have l:(t.step (w.j.W.length:Int)).at'<=(EB w t).at'/\(EB w t).at'<=(t.step (w.j.W.length:Int)).at'+1/\(EB w t).l=(t.step (w.j.W.length:Int)).l:=Iu _;have m:(EB w t).at'<=(H3 w t).at'/\(H3 w t).at'<=(EB w t).at'+1/\(H3 w t).l=(EB w t).l:=Iu _;have k1:=Ie i s1.2.2 oq oq;have k:CY (EB w t):=Ie k1 l.2.2 oq oq;have k3:CY (H3 w t):=Ie k m.2.2 oq oq;have a1:=c.wl;have a2:=c.pl;have a3:=c.cw;have hw:=c.W;have n1:=GG t (n:=(w.j.W.length:Int)) oq;have n2:=GG (t.step (w.j.W.length:Int)) (n:=(w.j.P.length:Int)) oq;have n:=GG (EB w t) (n:=12) dd;have b:(EB w t).next 12=0\/(EB w t).next 12=1\/(EB w t).next 12=2\/(EB w t).next 12=3\/(EB w t).next 12=4\/(EB w t).next 12=5\/(EB w t).next 12=6\/(EB w t).next 12=7\/(EB w t).next 12=8\/(EB w t).next 12=9\/(EB w t).next 12=10\/(EB w t).next 12=11:=by omega
 have a:=λ(n:Int) (h:1<=n)=>GG (H3 w t) (n:=n) h;have pu:=d (spP w t);have e:w.spoil t=⟨spH w t ((EB w t).next 12),w.G,w.E⟩:=rfl;have f:w.spoilT t=if(EB w t).next 12<=8 then(H3 w t).step (spN w ((EB w t).next 12))else H3 w t:=rfl
 have g:L1 ((↑(Lc Z0.dv w.j.P).length:Int).toNat-Lz 1) (LA (Lz 1) (Lc Z0.dv w.j.P))=Lc Z0.dv (w.j.P.drop 1):=by(show L1 _ (LA 1 (Lc Z0.dv w.j.P))=_;rw[<-LY];exact List.take_of_length_le pq)
 unfold H3 EB spP at *;rcases b with b|b|b|b|b|b|b|b|b|b|b|b<;>rw[e,f,b]<;>simp only[spH,spN,spV,spQ,Ib,spI,spP,H3,EB,Int.reduceLE,Int.reduceEq,if_true,if_false,reduceIte]<;>clear e f;have a:=a 10 oq;exact lF func33 []<|Fh 10044 [.els (Lc wD (w.j.W.set (t.next (w.j.W.length:Int)).toNat ([0,1,5,21,4096,4097,4112,16386,1099511627776,61].getD ((((t.step (w.j.W.length:Int)).step (w.j.P.length:Int)).step 12).next 10).toNat M)))]<|FA 11 14 wD w.j.W<|FA 15 18 Z0.dv w.j.P<|Fl 24 wD w.j.W<|Fp 25 (@BB t ((w.j.W.length:Int)) aa oq oq)<|Fl 29 Z0.dv w.j.P<|Fp 30 (@BB (t.step (w.j.W.length:Int)) ((w.j.P.length:Int)) aa oq oq)<|Fp 32 (@Ga ((t.step (w.j.W.length:Int)).step (w.j.P.length:Int)) (0) aa aa)<|Fs 39 (Lc wD [0,1,5,21,4096,4097,4112,16386,1099511627776,61])<|Fp 41 (@BB (((t.step (w.j.W.length:Int)).step (w.j.P.length:Int)).step 12) (10) aa oq oq)<|Fmq 43 wD [0,1,5,21,4096,4097,4112,16386,1099511627776,61] ((((t.step (w.j.W.length:Int)).step (w.j.P.length:Int)).step 12).next 10)<|Fa (by(simp only[Lo,Lq,Lr];omega):0<=t.next (w.j.W.length:Int)/\(t.next (w.j.W.length:Int)).toNat<(Lc wD w.j.W).length)<|Fa (by(simp only[Lo,Lq,Lr];omega):(t.next (w.j.W.length:Int)).toNat<(Lc wD w.j.W).length)<|Fa (by simp[MW,Xf,LY,LZ,LV,wD,iD]:(Lc wD w.j.W).set (t.next (w.j.W.length:Int)).toNat [ZD ([0,1,5,21,4096,4097,4112,16386,1099511627776,61].getD ((((t.step (w.j.W.length:Int)).step (w.j.P.length:Int)).step 12).next 10).toNat M)]=Lc wD (w.j.W.set (t.next (w.j.W.length:Int)).toNat ([0,1,5,21,4096,4097,4112,16386,1099511627776,61].getD ((((t.step (w.j.W.length:Int)).step (w.j.P.length:Int)).step 12).next 10).toNat M))) Fz;have a:=a 10 oq;exact lF func33 []<|Fh 10044 [.els (Lc wD (w.j.W.set (t.next (w.j.W.length:Int)).toNat ([0,1,5,21,4096,4097,4112,16386,1099511627776,61].getD ((((t.step (w.j.W.length:Int)).step (w.j.P.length:Int)).step 12).next 10).toNat M)))]<|FA 11 14 wD w.j.W<|FA 15 18 Z0.dv w.j.P<|Fl 24 wD w.j.W<|Fp 25 (@BB t ((w.j.W.length:Int)) aa oq oq)<|Fl 29 Z0.dv w.j.P<|Fp 30 (@BB (t.step (w.j.W.length:Int)) ((w.j.P.length:Int)) aa oq oq)<|Fp 32 (@Ga ((t.step (w.j.W.length:Int)).step (w.j.P.length:Int)) (1) aa aa)<|Fs 39 (Lc wD [0,1,5,21,4096,4097,4112,16386,1099511627776,61])<|Fp 41 (@BB (((t.step (w.j.W.length:Int)).step (w.j.P.length:Int)).step 12) (10) aa oq oq)<|Fmq 43 wD [0,1,5,21,4096,4097,4112,16386,1099511627776,61] ((((t.step (w.j.W.length:Int)).step (w.j.P.length:Int)).step 12).next 10)<|Fa (by(simp only[Lo,Lq,Lr];omega):0<=t.next (w.j.W.length:Int)/\(t.next (w.j.W.length:Int)).toNat<(Lc wD w.j.W).length)<|Fa (by(simp only[Lo,Lq,Lr];omega):(t.next (w.j.W.length:Int)).toNat<(Lc wD w.j.W).length)<|Fa (by simp[MW,Xf,LY,LZ,LV,wD,iD]:(Lc wD w.j.W).set (t.next (w.j.W.length:Int)).toNat [ZD ([0,1,5,21,4096,4097,4112,16386,1099511627776,61].getD ((((t.step (w.j.W.length:Int)).step (w.j.P.length:Int)).step 12).next 10).toNat M)]=Lc wD (w.j.W.set (t.next (w.j.W.length:Int)).toNat ([0,1,5,21,4096,4097,4112,16386,1099511627776,61].getD ((((t.step (w.j.W.length:Int)).step (w.j.P.length:Int)).step 12).next 10).toNat M))) Fz;have a:=a 64 oq;exact lF func33 []<|Fh 10057 [.els (Lc wD (w.j.W.set (t.next (w.j.W.length:Int)).toNat (bits BinOp.xor Lj (w.j.W.getD (t.next (w.j.W.length:Int)).toNat M) (Lj.wrap ((1:Int)*2^min ((((t.step (w.j.W.length:Int)).step (w.j.P.length:Int)).step 12).next 64).toNat 64)))))]<|FA 11 14 wD w.j.W<|FA 15 18 Z0.dv w.j.P<|Fl 24 wD w.j.W<|Fp 25 (@BB t ((w.j.W.length:Int)) aa oq oq)<|Fl 29 Z0.dv w.j.P<|Fp 30 (@BB (t.step (w.j.W.length:Int)) ((w.j.P.length:Int)) aa oq oq)<|Fp 32 (@Ga ((t.step (w.j.W.length:Int)).step (w.j.P.length:Int)) (2) aa aa)<|Fmq 51 wD w.j.W (t.next (w.j.W.length:Int))<|Fp 53 (@BB (((t.step (w.j.W.length:Int)).step (w.j.P.length:Int)).step 12) (64) aa oq oq)<|Fv 54 ((((t.step (w.j.W.length:Int)).step (w.j.P.length:Int)).step 12).next 64)<|Fo (0<=(((t.step (w.j.W.length:Int)).step (w.j.P.length:Int)).step 12).next 64)<|Fa (by(simp only[Lo,Lq,Lr];omega):0<=t.next (w.j.W.length:Int)/\(t.next (w.j.W.length:Int)).toNat<(Lc wD w.j.W).length)<|Fa (by(simp only[Lo,Lq,Lr];omega):(t.next (w.j.W.length:Int)).toNat<(Lc wD w.j.W).length)<|Fa (by rw[LZ];rfl:(Lc wD w.j.W).set (t.next (w.j.W.length:Int)).toNat [ZD (bits BinOp.xor Lj (w.j.W.getD (t.next (w.j.W.length:Int)).toNat M) (Lj.wrap ((1:Int)*2^min ((((t.step (w.j.W.length:Int)).step (w.j.P.length:Int)).step 12).next 64).toNat Lj.bits)))]=Lc wD (w.j.W.set (t.next (w.j.W.length:Int)).toNat (bits BinOp.xor Lj (w.j.W.getD (t.next (w.j.W.length:Int)).toNat M) (Lj.wrap ((1:Int)*2^min ((((t.step (w.j.W.length:Int)).step (w.j.P.length:Int)).step 12).next 64).toNat 64))))) Fz;have a:=a 5 oq;exact lF func33 []<|FA 11 14 wD w.j.W<|FA 15 18 Z0.dv w.j.P<|Fl 24 wD w.j.W<|Fp 25 (@BB t ((w.j.W.length:Int)) aa oq oq)<|Fl 29 Z0.dv w.j.P<|Fp 30 (@BB (t.step (w.j.W.length:Int)) ((w.j.P.length:Int)) aa oq oq)<|Fp 32 (@Ga ((t.step (w.j.W.length:Int)).step (w.j.P.length:Int)) (3) aa aa)<|Fp 64 (@BB (((t.step (w.j.W.length:Int)).step (w.j.P.length:Int)).step 12) (5) aa oq oq)<|Fm0q Z0.dv w.j.P ((t.step (w.j.W.length:Int)).next (w.j.P.length:Int))<|FS 10066 Z0.dv w.j.P (((t.step (w.j.W.length:Int)).next (w.j.P.length:Int)).toNat) (Z0.mk ((((t.step (w.j.W.length:Int)).step (w.j.P.length:Int)).step 12).next 5) (w.j.P.getD ((t.step (w.j.W.length:Int)).next (w.j.P.length:Int)).toNat M).S (w.j.P.getD ((t.step (w.j.W.length:Int)).next (w.j.P.length:Int)).toNat M).U (w.j.P.getD ((t.step (w.j.W.length:Int)).next (w.j.P.length:Int)).toNat M).N) ((w.j.P.getD ((t.step (w.j.W.length:Int)).next (w.j.P.length:Int)).toNat M).dv) Fz;have a:=a 3 oq;exact lF func33 []<|FA 11 14 wD w.j.W<|FA 15 18 Z0.dv w.j.P<|Fl 24 wD w.j.W<|Fp 25 (@BB t ((w.j.W.length:Int)) aa oq oq)<|Fl 29 Z0.dv w.j.P<|Fp 30 (@BB (t.step (w.j.W.length:Int)) ((w.j.P.length:Int)) aa oq oq)<|Fp 32 (@Ga ((t.step (w.j.W.length:Int)).step (w.j.P.length:Int)) (4) aa aa)<|Fp 73 (@BB (((t.step (w.j.W.length:Int)).step (w.j.P.length:Int)).step 12) (3) aa oq oq)<|Fm0q Z0.dv w.j.P ((t.step (w.j.W.length:Int)).next (w.j.P.length:Int))<|FS 10075 Z0.dv w.j.P (((t.step (w.j.W.length:Int)).next (w.j.P.length:Int)).toNat) (Z0.mk (w.j.P.getD ((t.step (w.j.W.length:Int)).next (w.j.P.length:Int)).toNat M).K ((((t.step (w.j.W.length:Int)).step (w.j.P.length:Int)).step 12).next 3) (w.j.P.getD ((t.step (w.j.W.length:Int)).next (w.j.P.length:Int)).toNat M).U (w.j.P.getD ((t.step (w.j.W.length:Int)).next (w.j.P.length:Int)).toNat M).N) ((w.j.P.getD ((t.step (w.j.W.length:Int)).next (w.j.P.length:Int)).toNat M).dv) Fz;have a:=a 9 oq;exact lF func33 []<|FA 11 14 wD w.j.W<|FA 15 18 Z0.dv w.j.P<|Fl 24 wD w.j.W<|Fp 25 (@BB t ((w.j.W.length:Int)) aa oq oq)<|Fl 29 Z0.dv w.j.P<|Fp 30 (@BB (t.step (w.j.W.length:Int)) ((w.j.P.length:Int)) aa oq oq)<|Fp 32 (@Ga ((t.step (w.j.W.length:Int)).step (w.j.P.length:Int)) (5) aa aa)<|Fmq 86 Z0.dv w.j.P ((t.step (w.j.W.length:Int)).next (w.j.P.length:Int))<|Fp 88 (@BB (((t.step (w.j.W.length:Int)).step (w.j.P.length:Int)).step 12) (9) aa oq oq)<|Fi 89 ((w.j.P.getD ((t.step (w.j.W.length:Int)).next (w.j.P.length:Int)).toNat M).U+(((t.step (w.j.W.length:Int)).step (w.j.P.length:Int)).step 12).next 9)<|Fi 90 ((w.j.P.getD ((t.step (w.j.W.length:Int)).next (w.j.P.length:Int)).toNat M).U+(((t.step (w.j.W.length:Int)).step (w.j.P.length:Int)).step 12).next (9:Int)-4)<|Fm0q Z0.dv w.j.P ((t.step (w.j.W.length:Int)).next (w.j.P.length:Int))<|FS 10092 Z0.dv w.j.P (((t.step (w.j.W.length:Int)).next (w.j.P.length:Int)).toNat) (Z0.mk (w.j.P.getD ((t.step (w.j.W.length:Int)).next (w.j.P.length:Int)).toNat M).K (w.j.P.getD ((t.step (w.j.W.length:Int)).next (w.j.P.length:Int)).toNat M).S ((w.j.P.getD ((t.step (w.j.W.length:Int)).next (w.j.P.length:Int)).toNat M).U+(((t.step (w.j.W.length:Int)).step (w.j.P.length:Int)).step 12).next (9:Int)-4) (w.j.P.getD ((t.step (w.j.W.length:Int)).next (w.j.P.length:Int)).toNat M).N) ((w.j.P.getD ((t.step (w.j.W.length:Int)).next (w.j.P.length:Int)).toNat M).dv) Fz;have a:=a 3 oq;exact lF func33 []<|FA 11 14 wD w.j.W<|FA 15 18 Z0.dv w.j.P<|Fl 24 wD w.j.W<|Fp 25 (@BB t ((w.j.W.length:Int)) aa oq oq)<|Fl 29 Z0.dv w.j.P<|Fp 30 (@BB (t.step (w.j.W.length:Int)) ((w.j.P.length:Int)) aa oq oq)<|Fp 32 (@Ga ((t.step (w.j.W.length:Int)).step (w.j.P.length:Int)) (6) aa aa)<|Fp 99 (@BB (((t.step (w.j.W.length:Int)).step (w.j.P.length:Int)).step 12) (3) aa oq oq)<|Fi 100 ((((t.step (w.j.W.length:Int)).step (w.j.P.length:Int)).step 12).next (3:Int)-1)<|Fm0q Z0.dv w.j.P ((t.step (w.j.W.length:Int)).next (w.j.P.length:Int))<|FS 10102 Z0.dv w.j.P (((t.step (w.j.W.length:Int)).next (w.j.P.length:Int)).toNat) (Z0.mk (w.j.P.getD ((t.step (w.j.W.length:Int)).next (w.j.P.length:Int)).toNat M).K (w.j.P.getD ((t.step (w.j.W.length:Int)).next (w.j.P.length:Int)).toNat M).S (w.j.P.getD ((t.step (w.j.W.length:Int)).next (w.j.P.length:Int)).toNat M).U ((((t.step (w.j.W.length:Int)).step (w.j.P.length:Int)).step 12).next (3:Int)-1)) ((w.j.P.getD ((t.step (w.j.W.length:Int)).next (w.j.P.length:Int)).toNat M).dv) Fz;have a:=a 3 oq;exact lF func33 []<|FA 11 14 wD w.j.W<|FA 15 18 Z0.dv w.j.P<|Fl 24 wD w.j.W<|Fp 25 (@BB t ((w.j.W.length:Int)) aa oq oq)<|Fl 29 Z0.dv w.j.P<|Fp 30 (@BB (t.step (w.j.W.length:Int)) ((w.j.P.length:Int)) aa oq oq)<|Fp 32 (@Ga ((t.step (w.j.W.length:Int)).step (w.j.P.length:Int)) (7) aa aa)<|Fp 106 (@BB (((t.step (w.j.W.length:Int)).step (w.j.P.length:Int)).step 12) (3) aa oq oq) Fz;have a:=a ((w.j.P.length+2:Nat):Int) oq;exact lF func33 []<|FA 11 14 wD w.j.W<|FA 15 18 Z0.dv w.j.P<|Fl 24 wD w.j.W<|Fp 25 (@BB t ((w.j.W.length:Int)) aa oq oq)<|Fl 29 Z0.dv w.j.P<|Fp 30 (@BB (t.step (w.j.W.length:Int)) ((w.j.P.length:Int)) aa oq oq)<|Fp 32 (@Ga ((t.step (w.j.W.length:Int)).step (w.j.P.length:Int)) (8) aa aa)<|Fl 113 Z0.dv w.j.P<|Fw 114 ((w.j.P.length:Int)+2) (↑(w.j.P.length+2):Int)<|Fp 115 (@BB (((t.step (w.j.W.length:Int)).step (w.j.P.length:Int)).step 12) ((↑(w.j.P.length+2):Int)) aa oq oq)<|Fi 116 ((((t.step (w.j.W.length:Int)).step (w.j.P.length:Int)).step 12).next (↑(w.j.P.length+2):Int)-1) Fz;exact lF func33 []<|FA 11 14 wD w.j.W<|FA 15 18 Z0.dv w.j.P<|Fl 24 wD w.j.W<|Fp 25 (@BB t ((w.j.W.length:Int)) aa oq oq)<|Fl 29 Z0.dv w.j.P<|Fp 30 (@BB (t.step (w.j.W.length:Int)) ((w.j.P.length:Int)) aa oq oq)<|Fp 32 (@Ga ((t.step (w.j.W.length:Int)).step (w.j.P.length:Int)) (9) aa aa)<|Fi 123 (w.j.C.pw+4) Fz;exact lF func33 [O]<|FA 11 14 wD w.j.W<|FA 15 18 Z0.dv w.j.P<|Fl 24 wD w.j.W<|Fp 25 (@BB t ((w.j.W.length:Int)) aa oq oq)<|Fl 29 Z0.dv w.j.P<|Fp 30 (@BB (t.step (w.j.W.length:Int)) ((w.j.P.length:Int)) aa oq oq)<|Fp 32 (@Ga ((t.step (w.j.W.length:Int)).step (w.j.P.length:Int)) (10) aa aa)<|Fa (by(simp only[Lo,Lq,Lr];omega):(0:Int)<=(1:Int)/\1<=(↑(Lc Z0.dv w.j.P).length:Int))<|Fr w.j.C.pw<|Fr w.j.C.pg<|Fr (Lc wD w.j.W)<|Fa (g:L1 ((↑(Lc Z0.dv w.j.P).length:Int).toNat-Lz 1) (LA (Lz 1) (Lc Z0.dv w.j.P))=Lc Z0.dv (Zg.mk (Heap.mk w.j.C w.j.W (LA 1 w.j.P) w.j.S w.j.B) w.G w.E).j.P)<|Fr w.j.S<|Fr w.j.B<|Fr (Lc wD w.G)<|Fr (Lc wD w.E) Fz;exact lF func33 []<|FA 11 14 wD w.j.W<|FA 15 18 Z0.dv w.j.P<|Fl 24 wD w.j.W<|Fp 25 (@BB t ((w.j.W.length:Int)) aa oq oq)<|Fl 29 Z0.dv w.j.P<|Fp 30 (@BB (t.step (w.j.W.length:Int)) ((w.j.P.length:Int)) aa oq oq)<|Fp 32 (@Ga ((t.step (w.j.W.length:Int)).step (w.j.P.length:Int)) (11) aa aa)<|Fu (@ZhO w (((t.step (w.j.W.length:Int)).step (w.j.P.length:Int)).step 12) oq) Fz
structure HOk (h:Heap):Prop where
 w:Zy h.W
 wl:h.W.length<=1048576
 pl:h.P.length<=1048576
def Zd5(n:Int):0<=Lj.wrap n/\Lj.wrap n<=18446744073709551615:=by unfold IntKind.wrap;simp only[IntKind.signed,IntKind.bits,Bool.false_and,Bool.false_eq_true,if_false];omega
def ZaG{w:Zg}(hw:Zy w.j.W) t(d:Int):0<=spV w t d/\spV w t d<=18446744073709551615:=by
 unfold spV;split;have h:∀x∈MW,0<=x/\x<=18446744073709551615:=by(intro x a;simp only[MW,LC,List.not_mem_nil,or_false]at a;omega)
 exact Af h _;exact Zd5 _
def Zhu{w}(a:Cl w 1000) t:HOk (w.spoil t).j:=by have a1:=Hl a.hv;have a2:=BF.1 a.hv;have a3:=a.L;have a4:=a.pl;unfold Zg.spoil spH;simp only;split;refine⟨λx b=>?_,by simp only[Xc];omega,by simp only;omega⟩;rcases List.mem_or_eq_of_mem_set b with b|rfl;exact a.W x b;exact ZaG a.W _ _;split;exact⟨a.W,by simp only;omega,by simp only[Xc];omega⟩;split;exact⟨a.W,by simp only;omega,by simp only;omega⟩;split;exact⟨a.W,by simp only;omega,by simp only;omega⟩;split;exact⟨a.W,by simp only;omega,by simp only;omega⟩;split;exact⟨a.W,by simp only;omega,by simp only[LU];omega⟩;exact⟨a.W,by simp only;omega,by simp only[Lo];omega⟩
end Go.Proofs.YtgedmeaemofdkaaGreat
