/-
 The statement BoundRequests: part 15.
 Conditions: none.
-/
import Derived.Test.YtkmnngahjnkdmaaGreatE14
set_option maxRecDepth 100000
set_option maxHeartbeats 2000000
set_option linter.all false
open Inhabited renaming default->M
open Bool renaming true->O,false->Lb,false_eq_true->LH,not_eq_true'->LI,true_eq_false->LL,and_eq_true->LV,or_false->LW
open Decidable renaming decide->La
open List renaming map->Lc,replicate->Ld,take->Lg,drop->Lh,getD_eq_getElem?_getD->Lj,mem_range->Lm,range->Ln,getElem?_eq_getElem->Lp,length_map->Lq,length_take->Lr,find?_range_eq_some->Ls,length_drop->Lt,length_replicate->Lu,map_append->Lv,find?_eq_none->Lw,mem_map->Lx,getElem?_drop->LC,getElem?_take->LD,map_drop->LF,map_take->LG,append_assoc->LN,find?_cons->L2,getElem?_append->L3,getElem?_append_left->L4,getElem?_append_right->L5,length_append->L6,length_cons->L7,length_nil->L8,length_set->L9,map_replicate->Xa,map_set->Xb,mem_append->Xc,mem_cons->Xd,mem_of_find?_eq_some->Xe,mem_of_getElem?->Xf,mem_replicate->Xg,pairwise_iff_getElem->Xh,takeWhile_sublist->Xi
open Go.IntKind renaming u64->Le,i64->Ll
open Option renaming some->Lf,none->Li,getD_some->LO,isSome_iff_exists->Xm,map_some->Xn
open Go.BinOp renaming or->Lk
open Classical renaming not_not->Lo
open Nat renaming le_refl->Ly,lt_or_ge->Xj,mod_eq_of_lt->Xk,pow_le_pow_right->Xl
open BitVec renaming ofInt->Lz,ofInt_natCast->LS,toNat_ofNat->LU
open Int renaming add_mul->LA,one_mul->LB,eq_ofNat_of_zero_le->LM,mul_comm->LY,mul_le_mul_of_nonneg_right->LZ,tdiv_eq_ediv_of_nonneg->L0,toNat->L1
open Array renaming getElem?_append->LQ,replicate->LR
open Go.Proofs.Tryz
namespace Go.Proofs.YtkmnngahjnkdmaaGreat
open Go.Sx
def Z4e{h:Heap}{i o}(e:(address h.C i o).2=0):Bf h i o=4096+(i*h.C.pw+o)/\0<=i/\i<h.C.pg/\0<=o/\o<h.C.pw:=by unfold address at e;split at e;rename_i c;split at e;rename_i a;have b:=a;unfold inB at a;simp at a;refine⟨?_,by omega,by omega,by omega,by omega⟩;unfold Bf address;rw[if_pos c,if_pos b];simp at e;simp at e
def Z2k{h i}:∀{f:Nat} {o:Int},∀x∈(EL h i f o).1,4096+(i*h.C.pw+o)<=x.addr/\x.addr<4096+(i*h.C.pw+h.C.pw)
 |0,o,x,hx=>by simp[EL]at hx
 |f+1,o,x,hx=>by
  unfold EL at hx;split at hx
  .split at hx
   .rename_i a;have ha:=Z4e a.1;rcases Xd.1 hx with rfl|hx
    .simp only;omega
    .have:=Z2k x hx;have:=Ip (Zc h (Bf h i o)).1;omega
   .simp at hx
  .simp at hx
def Z6t{h i}:∀{f:Nat} {o:Int},((EL h i f o).1.map (·.addr)).Pairwise (· < ·)
 |0,o=>by simp[EL]
 |f+1,o=>by
  unfold EL;split
  .split
   .rename_i a;have ha:=Z4e a.1;have hs:=Z2n a.2;rw[List.map_cons,List.pairwise_cons];refine⟨λy c=>?_,Z6t⟩;obtain⟨x,b,rfl⟩:=Lx.1 c;have:=(Z2k x b).1;simp only;omega
   .simp
  .simp
def Z1Z{h i}:∀x∈(C0 h i).1,4096+i*h.C.pw<=x.addr/\x.addr<4096+(i+1)*h.C.pw:=by
 intro x a;have e:(i+1)*h.C.pw=i*h.C.pw+h.C.pw:=by rw[LA,LB]
 unfold C0 He at a;split at a;split at a;have:=Z2k x a;omega;simp at a;simp at a
def ZfV(h:Heap) i:((C0 h i).1.map (·.addr)).Pairwise (· < ·):=by unfold C0 He;split;split;exact Z6t;simp;simp
def Z5M{h:Heap}(a:0<=h.C.pw):∀(f i:Nat),∀x∈(CU h f i).1,4096+i*h.C.pw<=x.addr
 |0,i,x,hx=>by simp[CU]at hx
 |f+1,i,x,hx=>by
  unfold CU at hx;split at hx
  .split at hx
   .rcases Xc.1 hx with hx|hx
    .exact(Z1Z x hx).1
    .have:=Z5M a f (i+1) x hx;have e:((i+1:Nat):Int)*h.C.pw=i*h.C.pw+h.C.pw:=by push_cast;rw[LA,LB]
     omega
   .simp at hx
  .simp at hx
def Z9Q{h:Heap}(c:0<=h.C.pw):∀(f i:Nat),((CU h f i).1.map (·.addr)).Pairwise (· < ·)
 |0,i=>by simp[CU]
 |f+1,i=>by
  unfold CU;split
  .split
   .rw[Lv,List.pairwise_append];refine⟨ZfV h i,Z9Q c f (i+1),λa d b g=>?_⟩;obtain⟨x,j,rfl⟩:=Lx.1 d;obtain⟨y,k,rfl⟩:=Lx.1 g;have h1:=(Z1Z x j).2;have h2:=Z5M c f (i+1) y k;have e:((i+1:Nat):Int)*h.C.pw=((i:Int)+1)*h.C.pw:=by push_cast;rfl
    omega
   .simp
  .simp
def PW(h:Heap):(CH h).1.Pairwise (· < ·):=by rw[Z10 h];unfold CC;split;rename_i a;exact Z9Q (by have:=B7 a;omega) _ _;simp
def Z4z(h:Heap):(Zt h).1.Pairwise (· < ·):=by unfold Zt;exact(PW h).filter _
def B2(l:List Int)(v:Int):Nat:=(l.takeWhile (λx=>La (x<v))).length
def Z9B l(v:Int):B2 l v<=l.length:=by unfold B2;exact(Xi _).length_le
def Z2f{l:List Int}{v:Int}(hs:l.Pairwise (· < ·)){k:Nat}(c:k<l.length):(l.getD k M<v↔k<B2 l v):=by
 have e:l.getD k M=l[k]:=by rw[Lj,Lp c];rfl
 rw[e];constructor;intro h;by_cases f:k<B2 l v;exact f;exfalso;have d:B2 l v<l.length:=by omega
 have a:=Ar (λx=>La (x<v)) l d;have b:¬ l[B2 l v]<v:=by(have:La (l[B2 l v]<v)=Lb:=a;simpa using this)
 rcases Xj (B2 l v) k with hlt|hge;have:=Xh.1 hs (B2 l v) k d c hlt;omega;have:B2 l v=k:=by omega
 simp only[this]at b;exact b h;intro h;obtain⟨h1,a⟩:=AK _ _ _ h;simpa using a
def Zdk{l:List Int}{v:Int}(hs:l.Pairwise (· < ·)):(v∈l↔B2 l v<l.length/\l.getD (B2 l v) M=v):=by
 constructor;intro h;obtain⟨k,a,e⟩:=List.getElem_of_mem h;have f:l.getD k M=v:=by rw[Lj,Lp a,<-e];rfl
 have b:¬ k<B2 l v:=λq=>by have:=(Z2f (v:=v) hs a).2 q;omega
 have c:k=B2 l v:=by
  rcases Xj (B2 l v) k with hlt|hge;have d:B2 l v<l.length:=by omega
  have h3:¬ l.getD (B2 l v) M<v:=λq=>by have:=(Z2f (v:=v) hs d).1 q;omega
  have h4:=Xh.1 hs (B2 l v) k d a hlt;have e5:l.getD (B2 l v) M=l[B2 l v]:=by rw[Lj,Lp d];rfl
  omega;omega
 subst c;exact⟨a,f⟩;rintro⟨b,c⟩;rw[<-c,Lj,Lp b];exact List.getElem_mem b
def De x:GP 130 [uU x] O (bL Lb) []:=by exact gF [] func130 [O]<|Fbs ((x != x)=Lb) Fz
def Z8q x:GP 181 [uU x] O (bL Lb) []:=by exact gF [] func181 [O]<|Fbs ((x != x)=Lb) Fz
def Z5X x y:GP 129 [uU x,uU y] O (bL (La (x<y))) []:=by exact gF [] func129 []<|Fc 6 (@Z8q x)<|FcG 9 Lb (λa=>by(try simp only[bs]at a);exact@Z8q y) Fz
def bsL(l:List Int)(v:Int)(i j:Nat):Tg:=⟨tm 54 [(0,Z2 l),(1,uU v),(4,nI 0),(5,bL Lb),(6,nI l.length),(7,nI i),(8,nI j)],[],60⟩
section
variable(l:List Int)(v:Int)(hl:l.length<=1048576)(i j:Nat)(hij:i<j)(hj:j<=l.length)
include hl hij hj
theorem Zj3(hlt:l.getD ((i+j)/2) M<v):CP (Zn f74 0) (bsL l v i j).st .nrm (bsL l v ((i+j)/2+1) j).st:=by rcases bb (La (l.getD (((i:Int)+(j:Int))/2).toNat M<v))with hc0|hc0<;>have hc0p:=hc0<;>simp only[bs]at hc0p;let y0:=(i:Int)+(j:Int);exact sF [] []<|Fh 27 [.call O (bL (La (l.getD (y0/2).toNat M<v))) [],.br O]<|Ftb 15 (La ((i:Int)<(j:Int)))<|Fi 18 y0<|Fv 19 y0<|Fg 20 (HE rfl dd:y0.fdiv (2^min (L1 1) 64)=y0/2)<|Fo ((0:Int)<=1)<|Fi 21 (y0/2)<|Fe 24 wD l (y0/2)<|Fa (@Z5X (l.getD (y0/2).toNat M) v)<|Fa hc0<|Fi 29 (y0/(2:Int)+1) Fz;contradiction
theorem Zih(hlt:¬ l.getD ((i+j)/2) M<v):CP (Zn f74 0) (bsL l v i j).st .nrm (bsL l v i ((i+j)/2)).st:=by rcases bb (La (l.getD (((i:Int)+(j:Int))/2).toNat M<v))with hc0|hc0<;>have hc0p:=hc0<;>simp only[bs]at hc0p;contradiction;let y0:=(i:Int)+(j:Int);exact sF [] []<|Fh 27 [.call O (bL (La (l.getD (y0/2).toNat M<v))) [],.br Lb]<|Ftb 15 (La ((i:Int)<(j:Int)))<|Fi 18 y0<|Fv 19 y0<|Fg 20 (HE rfl dd:y0.fdiv (2^min (L1 1) 64)=y0/2)<|Fo ((0:Int)<=1)<|Fi 21 (y0/2)<|Fe 24 wD l (y0/2)<|Fa (@Z5X (l.getD (y0/2).toNat M) v)<|Fa hc0 Fz
end
def Z6c l v i:CP (Zn f74 0) (bsL l v i i).st (.ext 0) (Tg.st ⟨tm 54 [(0,Z2 l),(1,uU v),(6,nI l.length),(7,nI i)],[],60⟩):=by exact sF [] []<|Ffb 15 (La ((i:Int)<(i:Int))) Fz
def bsGo(l:List Int)(v:Int)(hl:l.length<=1048576)(hs:l.Pairwise (· < ·)):∀(f i j:Nat),j<=i+f->i<=B2 l v->B2 l v<=j->j<=l.length ->
  Gh prog f74 0 (bsL l v i j).st (.ext 0) (Tg.st ⟨tm 54 [(0,Z2 l),(1,uU v),(6,nI l.length),(7,nI (B2 l v))],[],60⟩):=by
 intro f;induction f with
 |zero =>
  intro i j m d e c;obtain⟨rfl,rfl⟩:i=B2 l v/\j=B2 l v:=by omega
  exact .endx (Z6c l v _)
 |succ f h =>
  intro i j m d e c;by_cases b:i<j;have g:=Z2f hs (v:=v) (k:=(i+j)/2) oq;by_cases a:l.getD ((i+j)/2) M<v
  .have:=g.1 a;exact .next (Zj3 l v hl i j b c a) (h ((i+j)/2+1) j oq oq e c)
  .have:¬ (i+j)/2<B2 l v:=λq=>a (g.2 q);exact .next (Zih l v hl i j b c a) (h i ((i+j)/2) oq d oq oq)
  obtain⟨rfl,rfl⟩:i=B2 l v/\j=B2 l v:=by omega
  exact .endx (Z6c l v _)
def Z3n(l:List Int) v(hl:l.length<=1048576)(hs:l.Pairwise (· < ·)):CP (Zl f74 0) (Tg.st ⟨tm 54 [(0,Z2 l),(1,uU v),(4,nI 0),(5,bL Lb),(6,nI l.length),(7,nI 0),(8,nI l.length)],[],60⟩) .nrm (Tg.st ⟨tm 54 [(0,Z2 l),(1,uU v),(6,nI l.length),(7,nI (B2 l v))],[],60⟩):=
 (bsGo l v hl hs l.length 0 l.length oq oq (Z9B l v) (Ly _)).ext kr
def bsearch(l:List Int) v(hl:l.length<=1048576)(hs:l.Pairwise (· < ·)):GP 74 [Z2 l,uU v] O (.tu [nI (B2 l v),bL (La (v∈l))]) []:=by
 have b:=Zdk (v:=v) hs;have hp:=Z9B l v;by_cases c:B2 l v<l.length;by_cases d:l.getD (B2 l v) M=v;have e:La (v∈l)=O:=by simpa using b.2 ⟨c,d⟩
 rw[e];exact gF [] func74 (fO 24)<|Fl 11 wD l<|Fu (@Z3n l v aa aa)<|FeG 38 (La ((↑(B2 l v):Int)<(l.length:Int))) wD l (↑(B2 l v):Int) (B2 l v)<|FeG 45 (La ((↑(B2 l v):Int)<(l.length:Int))&&!l.getD (B2 l v) M==v) wD l (↑(B2 l v):Int) (B2 l v)<|FcG 47 (La ((↑(B2 l v):Int)<(l.length:Int))&&!l.getD (B2 l v) M==v) (λa=>by(try simp only[bs]at a);exact@De (l.getD (B2 l v) M))<|FcG 50 (La ((↑(B2 l v):Int)<(l.length:Int))&&!l.getD (B2 l v) M==v&&Lb) (λa=>by(try simp only[bs]at a);exact@De v)<|Fr (↑(B2 l v):Int)<|Fb ((La ((↑(B2 l v):Int)<(l.length:Int))&&(l.getD (B2 l v) M==v||Lb))=O) Fz;have e:La (v∈l)=Lb:=by(simp only[decide_eq_false_iff_not];exactλq=>d (b.1 q).2)
 rw[e];exact gF [] func74 (fO 24)<|Fl 11 wD l<|Fu (@Z3n l v aa aa)<|FeG 38 (La ((↑(B2 l v):Int)<(l.length:Int))) wD l (↑(B2 l v):Int) (B2 l v)<|FeG 45 (La ((↑(B2 l v):Int)<(l.length:Int))&&!l.getD (B2 l v) M==v) wD l (↑(B2 l v):Int) (B2 l v)<|FcG 47 (La ((↑(B2 l v):Int)<(l.length:Int))&&!l.getD (B2 l v) M==v) (λa=>by(try simp only[bs]at a);exact@De (l.getD (B2 l v) M))<|FcG 50 (La ((↑(B2 l v):Int)<(l.length:Int))&&!l.getD (B2 l v) M==v&&Lb) (λa=>by(try simp only[bs]at a);exact@De v)<|Fr (↑(B2 l v):Int)<|Fbs ((La ((↑(B2 l v):Int)<(l.length:Int))&&(l.getD (B2 l v) M==v||Lb))=Lb) Fz;have e:La (v∈l)=Lb:=by(simp only[decide_eq_false_iff_not];exactλq=>c (b.1 q).1)
 rw[e];exact gF [] func74 (fO 24)<|Fl 11 wD l<|Fu (@Z3n l v aa aa)<|FeG 38 (La ((↑(B2 l v):Int)<(l.length:Int))) wD l (↑(B2 l v):Int) (B2 l v)<|FeG 45 (La ((↑(B2 l v):Int)<(l.length:Int))&&!l.getD (B2 l v) M==v) wD l (↑(B2 l v):Int) (B2 l v)<|FcG 47 (La ((↑(B2 l v):Int)<(l.length:Int))&&!l.getD (B2 l v) M==v) (λa=>by(try simp only[bs]at a);exact@De (l.getD (B2 l v) M))<|FcG 50 (La ((↑(B2 l v):Int)<(l.length:Int))&&!l.getD (B2 l v) M==v&&Lb) (λa=>by(try simp only[bs]at a);exact@De v)<|Fr (↑(B2 l v):Int)<|Fb ((La ((↑(B2 l v):Int)<(l.length:Int))&&(l.getD (B2 l v) M==v||Lb))=Lb) Fz
def ZeV{a v k:Nat}(b:a<2^k)(hv:a+v*2^k<18446744073709551616):bits .or .u64 (a:Int) ((v*2^k:Nat):Int)=((a+v*2^k:Nat):Int):=by rw[bits_or_u64_nat a (v*2^k) oq oq,Nat.mul_comm v,Nat.or_comm,<-Nat.two_pow_add_eq_or_of_lt b,Nat.add_comm]
def Zeu{v n:Nat}(h:n<=64)(j:v<2^n):bits .andNot .u64 (v:Int) (2^n-1)=0:=by
 have g:(2:Nat)^n<=2^64:=Xl dd h;have hp:0<(2:Nat)^n:=Nat.two_pow_pos n;have e:((2:Int)^n-1)=((2^n-1:Nat):Int):=by
  have:((2^n:Nat):Int)=2^n:=by simp
  omega
 rw[e];have d:(Lz 64 (v:Int)).toNat=v:=by(rw[LS,LU];exact Xk oq)
 have f:(Lz 64 ((2^n-1:Nat):Int)).toNat=2^n-1:=by(rw[LS,LU];exact Xk oq)
 show Le.wrap ((Lz 64 (v:Int) &&& ~~~ Lz 64 ((2^n-1:Nat):Int)).toNat:Int)=_;rw[BitVec.toNat_and,BitVec.toNat_not,d,f];have b:2^64-1-(2^n-1)=2^n*(2^(64-n)-1):=by
  have:(2:Nat)^64=2^n*2^(64-n):=by rw[<-Nat.pow_add];congr 1;omega
  rw[Nat.mul_sub,Nat.mul_one,<-this];omega
 have c:v &&& (2^64-1-(2^n-1))=0:=by(rw[b];apply Nat.eq_of_testBit_eq;intro i;rw[Nat.testBit_and,Nat.zero_testBit,Nat.testBit_two_pow_mul];by_cases a:n<=i;rw[Nat.testBit_lt_two_pow (Nat.lt_of_lt_of_le j (Xl dd a)),Bool.false_and];simp[a])
 rw[c];decide
def AP(v n:Int)(b:0<=v)(hn:0<=n/\n<=64)(c:v<2^n.toNat):GP 220 [uU v,nI n] O (bL O) []:=by
 have e:bits .andNot .u64 v (ones n)=0:=by(obtain⟨a,rfl⟩:=LM b;rw[ones,Nat.min_eq_left oq];exact Zeu oq (by exact_mod_cast c))
 exact gF [] func220 [O]<|Fc 7 (@RU n)<|Fb ((bits BinOp.andNot Le v (ones n)==0)=O) Fz
structure BF where
 width:Int
 value:Int
 deriving DecidableEq,Inhabited
def BF.dv(f:BF):List DV:=[.sc (.int .i64 f.width),.sc (.int .u64 f.value)]
def ZP(k l m:Int):List BF:=[⟨2,1⟩,⟨2,k⟩,⟨12,l⟩,⟨32,m⟩]
def pk1(k l m:Int)(i:Nat):Tg:=⟨tm 55 [(0,.d (.sl 2 ((ZP k l m).map BF.dv))),(2,uU 0),(3,nI 0),(4,nI ([64,62,60,48,16].getD i 0)),(11,.d (.sl 2 ((ZP k l m).map BF.dv))),(12,nI (ZP k l m).length),(13,nI i)],[],4⟩
def ZkG k l m(i:Nat)(hi:i<4):CP (Zn f175 0) (pk1 k l m i).st .nrm (pk1 k l m (i+1)).st:=by
 have eL:(ZP k l m).length=4:=rfl;have e0:(ZP k l m).getD 0 M=⟨2,1⟩:=rfl;have e1:(ZP k l m).getD 1 M=⟨2,k⟩:=rfl;have e2:(ZP k l m).getD 2 M=⟨12,l⟩:=rfl;have e3:(ZP k l m).getD 3 M=⟨32,m⟩:=rfl;have h:i=0\/i=1\/i=2\/i=3:=by omega
 rcases h with rfl|rfl|rfl|rfl;refine Zi [((15:Nat),[Hint.el ((ZP k l m).getD (0:Nat) M).dv]),((29:Nat),[Hint.int ((64:Int)-((ZP k l m).getD (0:Nat) M).width)])] [] [] [] (φ:=((0:Int)<=(↑(0:Nat):Int)/\(Lc BF.dv (ZP k l m))[(↑(0:Nat):Int).toNat]?=Lf ((ZP k l m).getD (0:Nat) M).dv)/\Ll.wrap ([(64:Int),(62:Int),(60:Int),(48:Int),(16:Int)].getD (0:Nat) (0:Int)-((ZP k l m).getD (0:Nat) M).width)=(64:Int)-((ZP k l m).getD (0:Nat) M).width) ?_ kr kr kr;exact⟨(by exact Zp oq oq oq),rfl⟩;refine Zi [((15:Nat),[Hint.el ((ZP k l m).getD (1:Nat) M).dv]),((29:Nat),[Hint.int ((62:Int)-((ZP k l m).getD (1:Nat) M).width)])] [] [] [] (φ:=((0:Int)<=(↑(1:Nat):Int)/\(Lc BF.dv (ZP k l m))[(↑(1:Nat):Int).toNat]?=Lf ((ZP k l m).getD (1:Nat) M).dv)/\Ll.wrap ([(64:Int),(62:Int),(60:Int),(48:Int),(16:Int)].getD (1:Nat) (0:Int)-((ZP k l m).getD (1:Nat) M).width)=(62:Int)-((ZP k l m).getD (1:Nat) M).width) ?_ kr kr kr;exact⟨(by exact Zp oq oq oq),rfl⟩;refine Zi [((15:Nat),[Hint.el ((ZP k l m).getD (2:Nat) M).dv]),((29:Nat),[Hint.int ((60:Int)-((ZP k l m).getD (2:Nat) M).width)])] [] [] [] (φ:=((0:Int)<=(↑(2:Nat):Int)/\(Lc BF.dv (ZP k l m))[(↑(2:Nat):Int).toNat]?=Lf ((ZP k l m).getD (2:Nat) M).dv)/\Ll.wrap ([(64:Int),(62:Int),(60:Int),(48:Int),(16:Int)].getD (2:Nat) (0:Int)-((ZP k l m).getD (2:Nat) M).width)=(60:Int)-((ZP k l m).getD (2:Nat) M).width) ?_ kr kr kr;exact⟨(by exact Zp oq oq oq),rfl⟩;refine Zi [((15:Nat),[Hint.el ((ZP k l m).getD (3:Nat) M).dv]),((29:Nat),[Hint.int ((48:Int)-((ZP k l m).getD (3:Nat) M).width)])] [] [] [] (φ:=((0:Int)<=(↑(3:Nat):Int)/\(Lc BF.dv (ZP k l m))[(↑(3:Nat):Int).toNat]?=Lf ((ZP k l m).getD (3:Nat) M).dv)/\Ll.wrap ([(64:Int),(62:Int),(60:Int),(48:Int),(16:Int)].getD (3:Nat) (0:Int)-((ZP k l m).getD (3:Nat) M).width)=(48:Int)-((ZP k l m).getD (3:Nat) M).width) ?_ kr kr kr;exact⟨(by exact Zp oq oq oq),rfl⟩
def Zjm k l m:CP (Zn f175 0) (pk1 k l m 4).st (.ext 0) (Tg.st ⟨tm 55 [(0,.d (.sl 2 ((ZP k l m).map BF.dv))),(2,uU 0),(3,nI 0)],[],4⟩):=by have eL:(ZP k l m).length=4:=rfl;refine Zi [] [] [] [] (φ:=True) ?_ kr kr kr;exact trivial
def ZcE(k l m:Int)  := Bs (S:=λi=>(pk1 k l m i).st) 4 (by kernel_rfl) (λi a=>ZkG k l m i a) (Zjm k l m)
def Ee(k l m:Int)(i:Nat):Int:=[0,1,1+4*k,1+4*k+16*l,1+4*k+16*l+65536*m].getD i 0
def pk2(k l m:Int)(i:Nat):Tg:=⟨tm 55 [(2,uU 0),(3,nI 0),(7,uU (Ee k l m i)),(8,nI ([0,2,4,16,48].getD i 0)),(31,.d (.sl 2 ((ZP k l m).map BF.dv))),(32,nI (ZP k l m).length),(33,nI i)],[],6⟩
def orI(n:Nat){p a v:Int}(e:p=((2^n:Nat):Int))(c:0<=a)(f:0<=v)(h1:a<p)(b:a+v*p<18446744073709551616):bits .or .u64 a (Le.wrap (v*p))=a+v*p:=by
 obtain⟨x,rfl⟩:=LM c;obtain⟨y,rfl⟩:=LM f;have d:(y:Int)*p=((y*2^n:Nat):Int):=by rw[e,Int.natCast_mul]
 rw[d]at b⊢;rw[Ms oq oq];exact ZeV oq oq
def ZgE(k l m:Int)(i:Nat)(h1:0<=k/\k<=3)(h2:0<=l/\l<=255)(h3:0<=m/\m<=4294967295)(hi:i<4):CP (Zn f175 2) (pk2 k l m i).st .nrm (pk2 k l m (i+1)).st:=by
 have eL:(ZP k l m).length=4:=rfl;have e0:(ZP k l m).getD 0 M=⟨2,1⟩:=rfl;have e1:(ZP k l m).getD 1 M=⟨2,k⟩:=rfl;have e2:(ZP k l m).getD 2 M=⟨12,l⟩:=rfl;have e3:(ZP k l m).getD 3 M=⟨32,m⟩:=rfl;have h:i=0\/i=1\/i=2\/i=3:=by omega
 have f1:bits .or .u64 (Ee k l m 1) (Le.wrap (((ZP k l m).getD 1 M).value*4))=Ee k l m (1+1):=(orI 2 (a:=1) (v:=k) dd oq oq oq oq).trans (by show _=1+4*k;omega);have f2:bits .or .u64 (Ee k l m 2) (Le.wrap (((ZP k l m).getD 2 M).value*16))=Ee k l m (2+1):=(orI 4 (a:=1+4*k) (v:=l) dd oq oq oq oq).trans (by show _=1+4*k+16*l;omega);have f3:bits .or .u64 (Ee k l m 3) (Le.wrap (((ZP k l m).getD 3 M).value*65536))=Ee k l m (3+1):=(orI 16 (a:=1+4*k+16*l) (v:=m) dd oq oq oq oq).trans (by show _=1+4*k+16*l+65536*m;omega);rcases h with rfl|rfl|rfl|rfl;refine Zi [((35:Nat),[Hint.el ((ZP k l m).getD (0:Nat) M).dv]),((41:Nat),[Hint.call O (bL O) []]),((47:Nat),[Hint.int (((ZP k l m).getD (0:Nat) M).value*(1:Int))]),((52:Nat),[Hint.int ((0:Int)+((ZP k l m).getD (0:Nat) M).width)])] [] [] [] (φ:=((0:Int)<=(↑(0:Nat):Int)/\(Lc BF.dv (ZP k l m))[(↑(0:Nat):Int).toNat]?=Lf ((ZP k l m).getD (0:Nat) M).dv)/\GP 220 [uU ((ZP k l m).getD (0:Nat) M).value,nI ((ZP k l m).getD (0:Nat) M).width] O (bL O) []/\Le.wrap (((ZP k l m).getD (0:Nat) M).value*(2:Int)^min ([(0:Int),(2:Int),(4:Int),(16:Int),(48:Int)].getD (0:Nat) (0:Int)).toNat (64:Nat))=((ZP k l m).getD (0:Nat) M).value*(1:Int)/\(0:Int)<=[(0:Int),(2:Int),(4:Int),(16:Int),(48:Int)].getD (0:Nat) (0:Int)/\Ll.wrap ([(0:Int),(2:Int),(4:Int),(16:Int),(48:Int)].getD (0:Nat) (0:Int)+((ZP k l m).getD (0:Nat) M).width)=(0:Int)+((ZP k l m).getD (0:Nat) M).width) ?_ kr kr kr;exact⟨(by exact Zp oq oq oq),(@AP (((ZP k l m).getD (0:Nat) M).value) (((ZP k l m).getD (0:Nat) M).width) (by grind[Ee]) (by grind[Ee]) (by grind[Ee])),rfl,(by simp[Ee, *]),rfl⟩;refine Zi [((35:Nat),[Hint.el ((ZP k l m).getD (1:Nat) M).dv]),((41:Nat),[Hint.call O (bL O) []]),((48:Nat),[Hint.int (bits Lk Le (Ee k l m (1:Nat)) (Le.wrap (((ZP k l m).getD (1:Nat) M).value*(4:Int))))]),((52:Nat),[Hint.int ((2:Int)+((ZP k l m).getD (1:Nat) M).width)])] [] [] [Lb,Lb,O] (φ:=((0:Int)<=(↑(1:Nat):Int)/\(Lc BF.dv (ZP k l m))[(↑(1:Nat):Int).toNat]?=Lf ((ZP k l m).getD (1:Nat) M).dv)/\GP 220 [uU ((ZP k l m).getD (1:Nat) M).value,nI ((ZP k l m).getD (1:Nat) M).width] O (bL O) []/\(0:Int)<=[(0:Int),(2:Int),(4:Int),(16:Int),(48:Int)].getD (1:Nat) (0:Int)/\bits Lk Le (Ee k l m (1:Nat)) (Le.wrap (((ZP k l m).getD (1:Nat) M).value*(2:Int)^min ([(0:Int),(2:Int),(4:Int),(16:Int),(48:Int)].getD (1:Nat) (0:Int)).toNat (64:Nat)))=bits Lk Le (Ee k l m (1:Nat)) (Le.wrap (((ZP k l m).getD (1:Nat) M).value*(4:Int)))/\Ll.wrap ([(0:Int),(2:Int),(4:Int),(16:Int),(48:Int)].getD (1:Nat) (0:Int)+((ZP k l m).getD (1:Nat) M).width)=(2:Int)+((ZP k l m).getD (1:Nat) M).width/\bits Lk Le (Ee k l m (1:Nat)) (Le.wrap (((ZP k l m).getD (1:Nat) M).value*(4:Int)))=Ee k l m ((1:Nat)+(1:Nat))) ?_ kr kr kr;exact⟨(by exact Zp oq oq oq),(@AP (((ZP k l m).getD (1:Nat) M).value) (((ZP k l m).getD (1:Nat) M).width) (by simp only[bs, *,true_or,or_true,true_and,and_true,not_true_eq_false,not_false_eq_true,LL,LH]) (by grind[Ee]) (by grind[Ee])),(by simp[Ee, *]),rfl,rfl,aa⟩;refine Zi [((35:Nat),[Hint.el ((ZP k l m).getD (2:Nat) M).dv]),((41:Nat),[Hint.call O (bL O) []]),((48:Nat),[Hint.int (bits Lk Le (Ee k l m (2:Nat)) (Le.wrap (((ZP k l m).getD (2:Nat) M).value*(16:Int))))]),((52:Nat),[Hint.int ((4:Int)+((ZP k l m).getD (2:Nat) M).width)])] [] [] [Lb,Lb,O] (φ:=((0:Int)<=(↑(2:Nat):Int)/\(Lc BF.dv (ZP k l m))[(↑(2:Nat):Int).toNat]?=Lf ((ZP k l m).getD (2:Nat) M).dv)/\GP 220 [uU ((ZP k l m).getD (2:Nat) M).value,nI ((ZP k l m).getD (2:Nat) M).width] O (bL O) []/\(0:Int)<=[(0:Int),(2:Int),(4:Int),(16:Int),(48:Int)].getD (2:Nat) (0:Int)/\bits Lk Le (Ee k l m (2:Nat)) (Le.wrap (((ZP k l m).getD (2:Nat) M).value*(2:Int)^min ([(0:Int),(2:Int),(4:Int),(16:Int),(48:Int)].getD (2:Nat) (0:Int)).toNat (64:Nat)))=bits Lk Le (Ee k l m (2:Nat)) (Le.wrap (((ZP k l m).getD (2:Nat) M).value*(16:Int)))/\Ll.wrap ([(0:Int),(2:Int),(4:Int),(16:Int),(48:Int)].getD (2:Nat) (0:Int)+((ZP k l m).getD (2:Nat) M).width)=(4:Int)+((ZP k l m).getD (2:Nat) M).width/\bits Lk Le (Ee k l m (2:Nat)) (Le.wrap (((ZP k l m).getD (2:Nat) M).value*(16:Int)))=Ee k l m ((2:Nat)+(1:Nat))) ?_ kr kr kr;exact⟨(by exact Zp oq oq oq),(@AP (((ZP k l m).getD (2:Nat) M).value) (((ZP k l m).getD (2:Nat) M).width) (by simp only[bs, *,true_or,or_true,true_and,and_true,not_true_eq_false,not_false_eq_true,LL,LH]) (by grind[Ee]) (by grind[Ee])),(by simp[Ee, *]),rfl,rfl,aa⟩;refine Zi [((35:Nat),[Hint.el ((ZP k l m).getD (3:Nat) M).dv]),((41:Nat),[Hint.call O (bL O) []]),((48:Nat),[Hint.int (bits Lk Le (Ee k l m (3:Nat)) (Le.wrap (((ZP k l m).getD (3:Nat) M).value*(65536:Int))))]),((52:Nat),[Hint.int ((16:Int)+((ZP k l m).getD (3:Nat) M).width)])] [] [] [Lb,Lb,O] (φ:=((0:Int)<=(↑(3:Nat):Int)/\(Lc BF.dv (ZP k l m))[(↑(3:Nat):Int).toNat]?=Lf ((ZP k l m).getD (3:Nat) M).dv)/\GP 220 [uU ((ZP k l m).getD (3:Nat) M).value,nI ((ZP k l m).getD (3:Nat) M).width] O (bL O) []/\(0:Int)<=[(0:Int),(2:Int),(4:Int),(16:Int),(48:Int)].getD (3:Nat) (0:Int)/\bits Lk Le (Ee k l m (3:Nat)) (Le.wrap (((ZP k l m).getD (3:Nat) M).value*(2:Int)^min ([(0:Int),(2:Int),(4:Int),(16:Int),(48:Int)].getD (3:Nat) (0:Int)).toNat (64:Nat)))=bits Lk Le (Ee k l m (3:Nat)) (Le.wrap (((ZP k l m).getD (3:Nat) M).value*(65536:Int)))/\Ll.wrap ([(0:Int),(2:Int),(4:Int),(16:Int),(48:Int)].getD (3:Nat) (0:Int)+((ZP k l m).getD (3:Nat) M).width)=(16:Int)+((ZP k l m).getD (3:Nat) M).width/\bits Lk Le (Ee k l m (3:Nat)) (Le.wrap (((ZP k l m).getD (3:Nat) M).value*(65536:Int)))=Ee k l m ((3:Nat)+(1:Nat))) ?_ kr kr kr;exact⟨(by exact Zp oq oq oq),(@AP (((ZP k l m).getD (3:Nat) M).value) (((ZP k l m).getD (3:Nat) M).width) (by simp only[bs, *,true_or,or_true,true_and,and_true,not_true_eq_false,not_false_eq_true,LL,LH]) (by grind[Ee]) (by grind[Ee])),(by simp[Ee, *]),rfl,rfl,aa⟩
def Zdb k l m:CP (Zn f175 2) (pk2 k l m 4).st (.ext 2) (Tg.st ⟨tm 55 [(2,uU 0),(3,nI 0),(7,uU (1+4*k+16*l+65536*m))],[],6⟩):=by have eL:(ZP k l m).length=4:=rfl;have ew:Ee k l m 4=1+4*k+16*l+65536*m:=rfl;refine Zi [] [] [] [] (φ:=True) ?_ kr kr kr;exact trivial
def Zbd(k l m:Int)(a:0<=k/\k<=3)(b:0<=l/\l<=255)(c:0<=m/\m<=4294967295)  := Bs (S:=λi=>(pk2 k l m i).st) 4 (by kernel_rfl) (λi d=>ZgE k l m i a b c d) (Zdb k l m)
def Zjs(k l m:Int)(h1:0<=k/\k<=3)(h2:0<=l/\l<=255)(h3:0<=m/\m<=4294967295):GP 175 [.d (.sl 2 ((ZP k l m).map BF.dv))] O (.tu [uU (1+4*k+16*l+65536*m),nI 0]) []:=by exact gF [] func175 []<|Fg 12 (rfl:(↑(Lc BF.dv (ZP k l m)).length:Int)=(↑(ZP k l m).length:Int))<|Fu (@ZcE k l m)<|Fg 32 (rfl:(↑(Lc BF.dv (ZP k l m)).length:Int)=(↑(ZP k l m).length:Int))<|Fu (@Zbd k l m aa aa aa) Fz
def D5{α β:Type}{f:α->β}{l:List α}(h:l≠[]):l.map f≠[]:=by simpa using h
def Z7f(ws:List Int)(hw:ws.length<=1048576)(hne:ws≠[]):GP 33 [Z2 ws] O (.ow 0) [.arr 44 1 (ws.map wD)]:=by exact gF [24007] func33 []<|Fa (D5 hne:Lc wD ws≠[])<|FA 5 7 wD ws<|Fa (H6 _:Ca (Lc wD ws)) Fz
def Zav(l:List Z0)(hl:l.length<=1048576)(hne:l≠[]):GP 117 [ZJ l] O (ZJ l) []:=by exact gF [] func117 []<|Fa (D5 hne:Lc Z0.dv l≠[])<|FA 5 7 Z0.dv l<|Fa (IP _:Ca (Lc Z0.dv l)) Fz
def Sa{α:Type}{l:List α}(h:0<l.length):l≠[]:=by rintro rfl;simp at h
def OQ(a:List Int)(i:Nat):Tg:=⟨tm 26 [(0,Z2 a),(1,Z2 a),(4,bL Lb),(5,nI i)],[],60⟩
def ZeE(a:List Int)(i:Nat)(ha:a.length<=1048576)(hi:i<a.length):CP (Zn f39 0) (OQ a i).st .nrm (OQ a (i+1)).st:=by exact sF [] []<|FN 13 14 19 wD a i<|Fek 23 wD a (↑i) i<|Ffs 25 (a.getD i M != a.getD i M)<|Fx 16 i Fz
def ZiX a:CP (Zn f39 0) (OQ a a.length).st (.ext 0) (Tg.st ⟨tm 26 [],[],60⟩):=by exact sF [] []<|FO 13 14 wD a Fz
def ZcP(a:List Int)(b:a.length<=1048576)  := Bs (S:=λi=>(OQ a i).st) a.length (by kernel_rfl) (λi c=>ZeE a i b c) (ZiX a)
def Z9p(a:List Int)(ha:a.length<=1048576):GP 39 [Z2 a,Z2 a] O (bL O) []:=by exact gF [] func39 []<|Fl 7 wD a<|Fl 9 wD a<|Ffs 10 ((a.length:Int) != (a.length:Int))<|Fu (@ZcP a aa) Fz
def ZeX(c:Nat):GP 33 [.d (.sc (.slice Li 0 c))] O (Z2 []) []:=by exact gF [] func33 []<|Fnl Fz
def Zkc p(c:Nat):GP 33 [.d (.sc (.slice (Lf p) 0 c))] O (Z2 []) []:=by exact gF [] func33 []<|Fs 5 (Lc wD [])<|Fa (by simp[*]:(Lc wD []).length+([]:List (List DV)).length<=2^30)<|Fs 7 (Lc wD [])<|Fa (H6 _:Ca (Lc wD [])) Fz
def Zkf(ws:List Int)(hw:ws.length<=1048576)(a:ws≠[]):GP 33 [Z2 ws] O (Z2 ws) []:=by exact gF [] func33 []<|Fa (D5 a:Lc wD ws≠[])<|FA 5 7 wD ws<|Fa (H6 _:Ca (Lc wD ws)) Fz
def Z8f(ws:List Int)(b:ws.length<=1048576):GP 33 [Z2 ws] O (Z2 ws) []:=by
 by_cases a:ws=[];subst a;exact Ox λp c=>match p with|Li=>ZeX c|Lf p=>Zkc p c
 exact Zkf ws b a
def Z5o(h:Zo)(i:Int)(hm:0<=h.map/\h.map<=4294967295):GP 200 [h.av,nI i] O (bL (BI h i)) []:=by
 rcases bb (!ZV h||La (i<0)||La (h.length<=i))with hc0|hc0<;>have hc0p:=hc0<;>simp only[bs]at hc0p
 .exact gF [] func200 (fO 6)<|Fc 6 (@RV h aa)<|Ft 17 hc0<|Fa (by grind[BI]:Lb=BI h i) Fz
 .obtain⟨⟨hc0paa,hc0pab⟩,hc0pb⟩:=hc0p;have hf3:=GC.1 hc0paa;obtain⟨hf3a,⟨hf3ba,⟨hf3bba,⟨hf3bbba,hf3bbbb⟩⟩⟩⟩:=hf3;exact gF [] func200 (fO 17)<|Fc 6 (@RV h aa)<|Ff 17 hc0<|Fa (by intro hg;(try simp only[bs]at hg);omega:(!h.K==2&&h.K==1)=O->0<=i)<|Fa (Z9v h i hm aa oq oq:(h.K==2||h.K==1&&bits BinOp.and IntKind.u32 (h.map.fdiv (2^min i.toNat 32)) (1:Int)==1)=BI h i) Fz
def Z0g(h:Zo)(i:Nat):Tg:=⟨tm 19 [(1,.pt 8001 0 0),(2,.d (.sl 0 [])),(3,.ow 16003),(6,nI (Z1 h)),(7,nI i)],[(16003,.arr 3 1 ((Cr h i).map iD)),(8001,.box 31 [nI h.K,nI h.length,u32 h.map])],60⟩
def ZiU(h:Zo)(i:Nat)(hm:0<=h.map/\h.map<=4294967295)(hi:(i:Int)<Z1 h):CP (Zn f158 0) (Z0g h i).st .nrm (Z0g h (i+1)).st:=by
 have hn:=Mz h i;have hs:=Ip h;by_cases a:BI h (i:Int)=O;have e:Cr h (i+1)=Cr h i++[(i:Int)]:=by rw[Cr,if_pos a]
 exact sF [(504016,16003)] (fO 5)<|Fh 12 [.call O (bL (BI h (i:Int))) [],.br O]<|Fh 16 [.els (Lc iD (Cr h i++[(i:Int)]))]<|Ftb 8 (La ((i:Int)<Z1 h))<|Fa (@Z5o h ((i:Int)) aa)<|Fa ‹BI h (i:Int)=O›<|Fs 15 (Lc iD [(i:Int)])<|Fa (by(simp[*];omega):(Lc iD (Cr h i)).length+(Lc iD [(i:Int)]).length<=2^30)<|Fa (ms:Lc iD (Cr h i)++Lc iD [(i:Int)]=Lc iD (Cr h i++[(i:Int)]))<|Fx 17 i<|Fr (3:Int)<|Fa (by refine congrArg _ ?_;rw[e]:Lc iD (Cr h i++[(i:Int)])=Lc iD (Cr h (i+1))) Fz;have e:Cr h (i+1)=Cr h i:=by rw[Cr,if_neg a]
 have b:BI h (i:Int)=Lb:=by simpa using a
 exact sF [] (fO 5)<|Fh 12 [.call O (bL (BI h (i:Int))) [],.br Lb]<|Ftb 8 (La ((i:Int)<Z1 h))<|Fa (@Z5o h ((i:Int)) aa)<|Fa ‹BI h (i:Int)=Lb›<|Fx 17 i<|Fr (3:Int)<|Fa (by refine congrArg _ ?_;rw[e]:Lc iD (Cr h i)=Lc iD (Cr h (i+1))) Fz
def ZhC(h:Zo)(i:Nat)(hi:(i:Int)=Z1 h):CP (Zn f158 0) (Z0g h i).st (.ext 0) (Tg.st ⟨tm 19 [(2,.d (.sl 0 [])),(3,.ow 16003)],[(16003,.arr 3 1 ((Cr h i).map iD))],60⟩):=by exact sF [] []<|Ffb 8 (La ((i:Int)<Z1 h)) Fz
def Za4(h:Zo):Cr h (Z1 h).toNat=ZA h:=by unfold ZA Z1;by_cases a:ZV h=O;rw[if_pos a,if_pos a];have hb:=GC.1 a;rw[show(h.length+1).toNat=h.length.toNat+1 from by omega,Cr,if_neg];unfold BI;simp;omega;rw[if_neg a,if_neg a];rfl
def Ze5(h:Zo)(a:0<=h.map/\h.map<=4294967295):CP (Zl f158 0) (Tg.st ⟨tm 19 [(1,.pt 8001 0 0),(2,.d (.sl 0 [])),(3,.ow 16003),(6,nI (Z1 h)),(7,nI 0)],[(16003,.arr 3 1 []),(8001,.box 31 [nI h.K,nI h.length,u32 h.map])],60⟩) .nrm (Tg.st ⟨tm 19 [(2,.d (.sl 0 [])),(3,.ow 16003)],[(16003,.arr 3 1 ((ZA h).map iD))],60⟩):=by have hs:=Ip h;rw[<-Za4];exact Bs (S:=λi=>(Z0g h i).st) (Z1 h).toNat kr (λi hi=>ZiU h i a oq) (ZhC h _ oq)
def Pz(h:Zo)(hm:0<=h.map/\h.map<=4294967295):GP 158 [h.av] O (.d (.sl 1 ((ZA h).map iD))) []:=by exact gF [] func158 []<|Fh 3 [.own]<|Fc 6 (@CK h aa)<|Fu (@Ze5 h aa)<|Fa (Ma _:Ca (Lc iD (ZA h))) Fz
def SY(h:Heap)(i:Nat):Tg:=⟨tm 19 [(1,nI i),(2,.pt 8002 0 0),(4,nI 0)],[(8002,.box 27 h.cells)],60⟩
def Zlf(h:Heap)(i:Nat)(hi:i+1<h.P.length)(hl:h.P.length<=1048576)(hk:(h.P.getD (i+1) M).K=3):CP (Zn f234 0) (SY h (i+1)).st .nrm (SY h i).st:=by
 have ei:((i+1:Nat):Int)-1=(i:Int):=by omega
 exact sF [] []<|FeG 11 (La (0<(↑(i+1):Int))) Z0.dv h.P (↑(i+1):Int) (i+1)<|Ftb 15 (La (0<(↑(i+1):Int))&&(h.P.getD (i+1) M).K==3)<|Fg 17 (by rw[E6 oq oq];omega:Ll.wrap ((↑(i+1):Int)-1)=(i:Int)) Fz
def Z7R(h:Heap)(i:Nat)(hi:i<h.P.length)(hl:h.P.length<=1048576)(hk:¬ (h.P.getD i M).K=3):CP (Zn f234 0) (SY h i).st (.ext 0) (Tg.st ⟨tm 19 [(1,nI i),(4,nI 0)],[],60⟩):=by exact sF [] []<|FeG 11 (La (0<(i:Int))) Z0.dv h.P (↑i) i<|Ffb 15 (La (0<(i:Int))&&(h.P.getD i M).K==3) Fz
def Z7D(h:Heap)(b:Z9 h=O)(hl:h.P.length<=1048576):∀i,i<h.P.length->Gh prog f234 0 (SY h i).st (.ext 0) (Tg.st ⟨tm 19 [(1,nI (B4 h.P i)),(4,nI 0)],[],60⟩)
 |0,hi=>.endx (Z7R h 0 hi hl (Z9a b))
 |i+1,hi=>by
  unfold B4;by_cases a:(h.P.getD (i+1) M).K=3
  .rw[if_pos a];exact .next (Zlf h i hi hl a) (Z7D h b hl i oq)
  .rw[if_neg a];exact .endx (Z7R h (i+1) hi hl a)
def Zb7(h:Heap)(i:Nat)(b:Z9 h=O)(a:i<h.P.length)(hl:h.P.length<=1048576):CP (Zl f234 0) (SY h i).st .nrm (Tg.st ⟨tm 19 [(1,nI (B4 h.P i)),(4,nI 0)],[],60⟩):=
 (Z7D h b hl i a).ext kr
def Zbo(h:Heap)(i:Nat)(a:Z9 h=O)(hi:i<h.P.length):GP 234 [h.av,nI i] O (nI (B4 h.P i)) []:=by have po:=B7 a;exact gF [] func234 []<|Fu (@Zb7 h i aa aa oq) Fz
def AM(h:Heap)(i:Int)(l:List Int)(n:Nat):Tg:=⟨tm 58 [(1,nI i),(3,.pt 8003 0 0),(6,uU 0),(7,bL Lb),(13,Z2 l),(14,nI l.length),(15,nI n)],[(8003,.box 27 h.cells)],60⟩
section
variable(h:Heap)(i:Int)(l:List Int)(n:Nat)(b:Zz h.W)(hl:l.length<=1048576)(c:0<=i/\i<h.P.length)(d:h.P.length<=1048576)(a:∀x∈l,0<=x/\x<=8192)
include b hl c d a
theorem Z6e(j:n<l.length)(g:Gv h i (l.getD n M)=Lb):CP (Zn f221 0) (AM h i l n).st .nrm (AM h i l (n+1)).st:=by have hx:=a (l.getD n M) (C1.2 ⟨n,j,rfl⟩);have hm:=IE b (l.getD n M);simp only[Gv,bs]at g;let e:=Zc h (l.getD n M);let f:=h.P.getD i.toNat M;exact sF [] []<|Ftb 16 (La ((n:Int)<(l.length:Int)))<|Fek 17 wD l (↑n) n<|Fc 22 (@Np h (l.getD n M) aa oq)<|Fc 26 (@CK (e.1) aa)<|Fc 29 (@Z0S h.C)<|Fe 34 Z0.dv h.P i<|FeGq 46 (!(f.K==1&&!decide (Z1 e.1<=Z6 h.C))) Z0.dv h.P i<|Ffb 55 (f.K==1&&!decide (Z1 e.1<=Z6 h.C)||f.K==2&&e.1.K==0)<|Fx 57 n Fz
theorem ZjR(j:n<l.length)(g:Gv h i (l.getD n M)=O):CP (Zn f221 0) (AM h i l n).st .ret (Tg.st ⟨tm 58 [(6,uU (l.getD n M)),(7,bL O)],[],60⟩):=by have hx:=a (l.getD n M) (C1.2 ⟨n,j,rfl⟩);have hm:=IE b (l.getD n M);simp only[Gv,bs]at g;let e:=Zc h (l.getD n M);let f:=h.P.getD i.toNat M;exact sF [] []<|Ftb 16 (La ((n:Int)<(l.length:Int)))<|Fek 17 wD l (↑n) n<|Fc 22 (@Np h (l.getD n M) aa oq)<|Fc 26 (@CK (e.1) aa)<|Fc 29 (@Z0S h.C)<|Fe 34 Z0.dv h.P i<|FeGq 46 (!(f.K==1&&!decide (Z1 e.1<=Z6 h.C))) Z0.dv h.P i<|Ftb 55 (f.K==1&&!decide (Z1 e.1<=Z6 h.C)||f.K==2&&e.1.K==0) Fz
omit b hl c d a in
theorem Zhv:CP (Zn f221 0) (AM h i l l.length).st (.ext 0) (Tg.st ⟨tm 58 [(6,uU 0),(7,bL Lb)],[],60⟩):=by exact sF [] []<|Ffb 16 (La ((l.length:Int)<(l.length:Int))) Fz
end
def Zbu(h:Heap)(i:Int)(l:List Int)(f:Zz h.W)(hl:l.length<=1048576)(c:0<=i/\i<h.P.length)(d:h.P.length<=1048576)(e:∀x∈l,0<=x/\x<=8192)(b:l.find? (Gv h i)=Li) :CP (Zl f221 0) (Tg.st ⟨tm 58 [(1,nI i),(3,.pt 8003 0 0),(6,uU 0),(7,bL Lb),(13,Z2 l),(14,nI l.length),(15,nI 0)],[(8003,.box 27 h.cells)],60⟩) .nrm (Tg.st ⟨tm 58 [(6,uU 0),(7,bL Lb)],[],60⟩):=
 Bs (S:=λn=>(AM h i l n).st) l.length kr (λn a=>Z6e h i l n f hl c d e a (Z0D b n a)) (Zhv h i l)
def Zdn(h:Heap)(i:Int)(l:List Int)(x:Int)(d:Zz h.W)(hl:l.length<=1048576)(a:0<=i/\i<h.P.length)(b:h.P.length<=1048576)(c:∀x∈l,0<=x/\x<=8192)(k:l.find? (Gv h i)=Lf x) :CP (Zl f221 0) (Tg.st ⟨tm 58 [(1,nI i),(3,.pt 8003 0 0),(6,uU 0),(7,bL Lb),(13,Z2 l),(14,nI l.length),(15,nI 0)],[(8003,.box 27 h.cells)],60⟩) .ret (Tg.st ⟨tm 58 [(6,uU x),(7,bL O)],[],60⟩):=by obtain⟨n,e,f,g,j⟩:=A4 k;subst f;exact EF (S:=λn=>(AM h i l n).st) n kr (λm o=>Z6e h i l m d hl a b c oq (j m o)) (ZjR h i l n d hl a b c e g)
def G5(h:Heap)(i:Int)(l:List Int):Bool:=(l.find? (Gv h i)).isSome
def Mf(h:Heap)(i:Int)(l:List Int)(hw:Zz h.W)(hl:l.length<=1048576)(hp:h.P.length<=1048576)(hi:0<=i/\i<h.P.length)(hr:∀x∈l,0<=x/\x<=8192):GP 221 [h.av,nI i,Z2 l] O (.tu [uU (Cs h i l),bL (G5 h i l)]) []:=by
 cases hf:l.find? (Gv h i)with
 |none =>
  have a:Cs h i l=0:=by rw[Cs,hf];rfl
  have b:G5 h i l=Lb:=by rw[G5,hf];rfl
  rw[a,b];exact gF [] func221 []<|Fl 14 wD l<|Fu (@Zbu h i l aa aa aa aa aa aa) Fz
 |some x =>
  have a:Cs h i l=x:=by rw[Cs,hf];rfl
  have b:G5 h i l=O:=by rw[G5,hf];rfl
  rw[a,b];exact gF [] func221 []<|Fl 14 wD l<|Fu (@Zdn h i l x aa aa aa aa aa aa) Fz
def Zll(ws:List Int)(a n:Int)(hw:ws.length<=1048576)(h0:4096<=a/\1<=n/\n<=1000/\a-4096+n<=ws.length):GP 233 [Z2 ws,uU a,nI n] O (.tu [.ow 0,nI 0]) [.arr 44 1 (((ws.drop (a-4096).toNat).take n.toNat).map wD)]:=by
 have c:(Zw ws a n).1=a-4096:=by rw[Zw,if_pos oq]
 have b:(Zw ws a n).2=O:=by rw[Zw,if_pos oq];simp;omega
 have d:(ws.drop (a-4096).toNat).take n.toNat≠[]:=Sa (by rw[Lr,Lt];omega);exact gF [41027] func233 [Lb,O]<|Fh 26 [.els (Lc wD (Lg (((Zw ws a n).1+n).toNat-(Zw ws a n).1.toNat) (Lh (Zw ws a n).1.toNat ws)))]<|Ffb 11 (La (n<0))<|Fc 16 (@TE ws a n aa oq)<|Ffb 20 (!(Zw ws a n).2)<|Fi 25 ((Zw ws a n).1+n)<|Fa (by(simp only[Lq];omega):0<=(Zw ws a n).1/\(Zw ws a n).1<=(Zw ws a n).1+n/\(Zw ws a n).1+n<=(↑(Lc wD ws).length:Int))<|Fa (by simp[b,LG,LF,Xb,Lv,wD,iD]:Lg (((Zw ws a n).1+n).toNat-(Zw ws a n).1.toNat) (Lh (Zw ws a n).1.toNat (Lc wD ws))=Lc wD (Lg (((Zw ws a n).1+n).toNat-(Zw ws a n).1.toNat) (Lh (Zw ws a n).1.toNat ws)))<|Fc 27 (@Z7f (Lg (((Zw ws a n).1+n).toNat-(Zw ws a n).1.toNat) (Lh (Zw ws a n).1.toNat ws)) (by(simp[b, *];omega)) (by(simp[b, *];omega)))<|Fa (H6 _:Ca (Lc wD (Lg (((Zw ws a n).1+n).toNat-(Zw ws a n).1.toNat) (Lh (Zw ws a n).1.toNat ws))))<|Fr (44:Int)<|Fa (by refine congrArg _ ?_;(simp[b, *];omega):Lc wD (Lg (((Zw ws a n).1+n).toNat-(Zw ws a n).1.toNat) (Lh (Zw ws a n).1.toNat ws))=Lc wD (Lg n.toNat (Lh (a-4096).toNat ws))) Fz
def GF(l:List Int):Nat:=(l.takeWhile λx=>x==0).length
def Z00{l}{m:Nat}(h:m<GF l):m<l.length/\l.getD m M=0:=by obtain⟨a,b⟩:=AK _ _ _ h;refine⟨a, ?_⟩;rw[Lj,Lp a];simpa using b
def Z41{l:List Int}(h:GF l<l.length):¬ l.getD (GF l) M=0:=by
 have a:=Ar (λx:Int=>x==0) l h;have b:l.getD (GF l) M=l[(l.takeWhile λx=>x==0).length]:=by(rw[Lj,Lp h];rfl)
 rw[b];simpa using a
def C7(l:List Int):Int:=if GF l<l.length then GF l else -1
def Z6b x:GP 235 [uU x] O (bL (x != 0)) []:=by exact gF [] func235 [] Fz
def DI(l:List Int)(i:Nat):Tg:=⟨tm 19 [(0,Z2 l),(1,.fn 235 []),(4,nI 0),(7,nI l.length),(8,nI i)],[],60⟩
def Z94(l:List Int)(i:Nat)(hl:l.length<=1048576)(hi:i<l.length)(e:l.getD i M=0):CP (Zn f128 0) (DI l i).st .nrm (DI l (i+1)).st:=by exact sF [] []<|Fh 16 [.call O (bL (l.getD i M != 0)) [],.br Lb]<|Ftb 9 (La ((i:Int)<(l.length:Int)))<|Fek 14 wD l (↑i) i<|Fa (@Z6b (l.getD i M))<|Fb ((l.getD i M != 0)=Lb)<|Fx 18 i Fz
def ZjB(l:List Int)(i:Nat)(hl:l.length<=1048576)(hi:i<l.length)(e:¬ l.getD i M=0):CP (Zn f128 0) (DI l i).st .ret (Tg.st ⟨tm 19 [(4,nI i)],[],60⟩):=by exact sF [] []<|Fh 16 [.call O (bL (l.getD i M != 0)) [],.br O]<|Ftb 9 (La ((i:Int)<(l.length:Int)))<|Fek 14 wD l (↑i) i<|Fa (@Z6b (l.getD i M))<|Fb ((l.getD i M != 0)=O) Fz
def Zct l:CP (Zn f128 0) (DI l l.length).st (.ext 0) (Tg.st ⟨tm 19 [(4,nI 0)],[],60⟩):=by exact sF [] []<|Ffb 9 (La ((l.length:Int)<(l.length:Int))) Fz
def ZbG(l:List Int)(hl:l.length<=1048576)(h:¬ GF l<l.length)  := Bs (S:=λj=>(DI l j).st) l.length (by kernel_rfl) (λj a=>Z94 l j hl a (Z00 (by omega)).2) (Zct l)
def Zcb(l:List Int)(hl:l.length<=1048576)(h:GF l<l.length)  := EF (S:=λj=>(DI l j).st) (GF l) (by kernel_rfl) (λj a=>Z94 l j hl (by omega) (Z00 a).2) (ZjB l (GF l) hl h (Z41 h))
def ZkI(l:List Int)(hl:l.length<=1048576):GP 128 [Z2 l,.fn 235 []] O (nI (C7 l)) []:=by by_cases h:GF l<l.length;have a:C7 l=GF l:=if_pos h;rw[a];exact gF [] func128 []<|Fl 7 wD l<|Fu (@Zcb l aa aa) Fz;have a:C7 l=-1:=if_neg h;rw[a];exact gF [] func128 []<|Fl 7 wD l<|Fu (@ZbG l aa aa) Fz
def Gc(c:List Int)(x:Int):Nat:=(min (max x 0) (c.length:Int)).toNat
def Rx(c:List Int)(x k:Int):List Int:=c.take (Gc c x)++Ld (Gc c (x+k)-Gc c x) 0++c.drop (Gc c x+(Gc c (x+k)-Gc c x))
def ZN(h:Heap)(F:Int)(l c:List Int):Nat->List Int|0=>c|n+1=>Rx (ZN h F l c n) (l.getD n M-F) (GJ h (l.getD n M))
def Z0d c(x:Int):Gc c x<=c.length:=by unfold Gc;omega
def Z6o c(x:Int){k:Int}(hk:0<=k):Gc c x<=Gc c (x+k):=by unfold Gc;omega
def Z4R(h:Heap)(a:Int):0<=GJ h a/\GJ h a<=256:=by have:=Ip (Zc h a).1;unfold GJ;split<;>omega
def ZcW c x{k:Int}(a:0<=k):(Rx c x k).length=c.length:=by have h1:=Z0d c x;have h2:=Z0d c (x+k);have h3:=Z6o c x a;simp[Rx];omega
def Tu(h:Heap) F l c:∀n,(ZN h F l c n).length=c.length|0=>rfl|n+1=>by rw[ZN,ZcW _ _ (Z4R h _).1,Tu h F l c n]
def adL(h:Heap)(F:Int)(l c:List Int)(n:Nat):Tg:=⟨tm 90 [(2,.pt 8002 0 0),(4,uU 0),(5,bL Lb),(6,uU F),(8,.ow 25033),(44,Z2 l),(45,nI l.length),(46,nI n)],[(25033,.arr 44 1 ((ZN h F l c n).map wD)),(8002,.box 27 h.cells)],60⟩
def Zkl(h:Heap)(F:Int)(l c:List Int)(n:Nat)(i:Zz h.W)(hF:0<=F/\F<=8192)(hl:l.length<=1048576)(hc:c.length<=64)(g:∀x∈l,0<=x/\x<=8192)(f:n<l.length):CP (Zn f222 0) (adL h F l c n).st .nrm (adL h F l c (n+1)).st:=by
 have hx:=g (l.getD n M) (C1.2 ⟨n,f,rfl⟩);have hm:=IE i (l.getD n M);have e:=Tu h F l c n;have hs:=Ip (Zc h (l.getD n M)).1;by_cases d:(Zc h (l.getD n M)).1.K=0;have b:GJ h (l.getD n M)=1:=if_pos d;have a:ZN h F l c (n+1)=Rx (ZN h F l c n) (l.getD n M-F) 1:=by rw[ZN,b]
 exact sF [] (fO 8)<|Fh 20000 [.els (Lc wD (Lg (min (max (l.getD n M-F) 0) (↑(ZN h F l c n).length:Int)).toNat (ZN h F l c n)++Ld ((min (max (l.getD n M-F+1) 0) (↑(ZN h F l c n).length:Int)).toNat-(min (max (l.getD n M-F) 0) (↑(ZN h F l c n).length:Int)).toNat) 0++Lh ((min (max (l.getD n M-F) 0) (↑(ZN h F l c n).length:Int)).toNat+(Ld ((min (max (l.getD n M-F+1) 0) (↑(ZN h F l c n).length:Int)).toNat-(min (max (l.getD n M-F) 0) (↑(ZN h F l c n).length:Int)).toNat) (0:Int)).length) (ZN h F l c n)))]<|Ftb 47 (La ((n:Int)<(l.length:Int)))<|Fek 48 wD l (↑n) n<|Fc 53 (@Np h (l.getD n M) aa oq)<|Ffb 58 ((Zc h (l.getD n M)).1.K != 0)<|Fi 62 (l.getD n M)<|Fi 64 F<|Fi 65 (l.getD n M-F)<|Fgo 68 (if 0 > l.getD n M-F then 0 else l.getD n M-F) (max (l.getD n M-F) 0)<|Fl 70 wD (ZN h F l c n)<|Fgo 71 (if(↑(ZN h F l c n).length:Int)<max (l.getD n M-F) 0 then(↑(ZN h F l c n).length:Int)else max (l.getD n M-F) 0) (min (max (l.getD n M-F) 0) (↑(ZN h F l c n).length:Int))<|Fi 74 (l.getD n M-F+1)<|Fgo 75 (if 0 > l.getD n M-F+1 then 0 else l.getD n M-F+1) (max (l.getD n M-F+1) 0)<|Fl 77 wD (ZN h F l c n)<|Fgo 78 (if(↑(ZN h F l c n).length:Int)<max (l.getD n M-F+1) 0 then(↑(ZN h F l c n).length:Int)else max (l.getD n M-F+1) 0) (min (max (l.getD n M-F+1) 0) (↑(ZN h F l c n).length:Int))<|Fa (by(simp only[Lq];omega):0<=min (max (l.getD n M-F) 0) (↑(ZN h F l c n).length:Int)/\min (max (l.getD n M-F) 0) (↑(ZN h F l c n).length:Int)<=min (max (l.getD n M-F+1) 0) (↑(ZN h F l c n).length:Int)/\min (max (l.getD n M-F+1) 0) (↑(ZN h F l c n).length:Int)<=(↑(Lc wD (ZN h F l c n)).length:Int))<|Fa (by simp only[Cc,Lv,LG,LF,Xa,Lu];rfl:Cc (Lc wD (ZN h F l c n)) (min (max (l.getD n M-F) 0) (↑(ZN h F l c n).length:Int)).toNat (Ld ((min (max (l.getD n M-F+1) 0) (↑(ZN h F l c n).length:Int)).toNat-(min (max (l.getD n M-F) 0) (↑(ZN h F l c n).length:Int)).toNat) [ZD 0])=Lc wD (Lg (min (max (l.getD n M-F) 0) (↑(ZN h F l c n).length:Int)).toNat (ZN h F l c n)++Ld ((min (max (l.getD n M-F+1) 0) (↑(ZN h F l c n).length:Int)).toNat-(min (max (l.getD n M-F) 0) (↑(ZN h F l c n).length:Int)).toNat) 0++Lh ((min (max (l.getD n M-F) 0) (↑(ZN h F l c n).length:Int)).toNat+(Ld ((min (max (l.getD n M-F+1) 0) (↑(ZN h F l c n).length:Int)).toNat-(min (max (l.getD n M-F) 0) (↑(ZN h F l c n).length:Int)).toNat) (0:Int)).length) (ZN h F l c n)))<|Fx 80 n<|Fr (44:Int)<|Fa (by refine congrArg _ ?_;rw[a];simp only[Rx,Gc,Lu]:Lc wD (Lg (min (max (l.getD n M-F) 0) (↑(ZN h F l c n).length:Int)).toNat (ZN h F l c n)++Ld ((min (max (l.getD n M-F+1) 0) (↑(ZN h F l c n).length:Int)).toNat-(min (max (l.getD n M-F) 0) (↑(ZN h F l c n).length:Int)).toNat) 0++Lh ((min (max (l.getD n M-F) 0) (↑(ZN h F l c n).length:Int)).toNat+(Ld ((min (max (l.getD n M-F+1) 0) (↑(ZN h F l c n).length:Int)).toNat-(min (max (l.getD n M-F) 0) (↑(ZN h F l c n).length:Int)).toNat) (0:Int)).length) (ZN h F l c n))=Lc wD (ZN h F l c (n+1))) Fz;have b:GJ h (l.getD n M)=Z1 (Zc h (l.getD n M)).1:=if_neg d;have a:ZN h F l c (n+1)=Rx (ZN h F l c n) (l.getD n M-F) (Z1 (Zc h (l.getD n M)).1):=by rw[ZN,b]
 exact sF [] (fO 8)<|Fh 20000 [.els (Lc wD (Lg (min (max (l.getD n M-F) 0) (↑(ZN h F l c n).length:Int)).toNat (ZN h F l c n)++Ld ((min (max (l.getD n M-F+Z1 (Zc h (l.getD n M)).1) 0) (↑(ZN h F l c n).length:Int)).toNat-(min (max (l.getD n M-F) 0) (↑(ZN h F l c n).length:Int)).toNat) 0++Lh ((min (max (l.getD n M-F) 0) (↑(ZN h F l c n).length:Int)).toNat+(Ld ((min (max (l.getD n M-F+Z1 (Zc h (l.getD n M)).1) 0) (↑(ZN h F l c n).length:Int)).toNat-(min (max (l.getD n M-F) 0) (↑(ZN h F l c n).length:Int)).toNat) (0:Int)).length) (ZN h F l c n)))]<|Ftb 47 (La ((n:Int)<(l.length:Int)))<|Fek 48 wD l (↑n) n<|Fc 53 (@Np h (l.getD n M) aa oq)<|Ftb 58 ((Zc h (l.getD n M)).1.K != 0)<|Fc 60 (@CK ((Zc h (l.getD n M)).1) aa)<|Fi 62 (l.getD n M)<|Fi 64 F<|Fi 65 (l.getD n M-F)<|Fgo 68 (if 0 > l.getD n M-F then 0 else l.getD n M-F) (max (l.getD n M-F) 0)<|Fl 70 wD (ZN h F l c n)<|Fgo 71 (if(↑(ZN h F l c n).length:Int)<max (l.getD n M-F) 0 then(↑(ZN h F l c n).length:Int)else max (l.getD n M-F) 0) (min (max (l.getD n M-F) 0) (↑(ZN h F l c n).length:Int))<|Fi 74 (l.getD n M-F+Z1 (Zc h (l.getD n M)).1)<|Fgo 75 (if 0 > l.getD n M-F+Z1 (Zc h (l.getD n M)).1 then 0 else l.getD n M-F+Z1 (Zc h (l.getD n M)).1) (max (l.getD n M-F+Z1 (Zc h (l.getD n M)).1) 0)<|Fl 77 wD (ZN h F l c n)<|Fgo 78 (if(↑(ZN h F l c n).length:Int)<max (l.getD n M-F+Z1 (Zc h (l.getD n M)).1) 0 then(↑(ZN h F l c n).length:Int)else max (l.getD n M-F+Z1 (Zc h (l.getD n M)).1) 0) (min (max (l.getD n M-F+Z1 (Zc h (l.getD n M)).1) 0) (↑(ZN h F l c n).length:Int))<|Fa (by(simp only[Lq];omega):0<=min (max (l.getD n M-F) 0) (↑(ZN h F l c n).length:Int)/\min (max (l.getD n M-F) 0) (↑(ZN h F l c n).length:Int)<=min (max (l.getD n M-F+Z1 (Zc h (l.getD n M)).1) 0) (↑(ZN h F l c n).length:Int)/\min (max (l.getD n M-F+Z1 (Zc h (l.getD n M)).1) 0) (↑(ZN h F l c n).length:Int)<=(↑(Lc wD (ZN h F l c n)).length:Int))<|Fa (by simp only[Cc,Lv,LG,LF,Xa,Lu];rfl:Cc (Lc wD (ZN h F l c n)) (min (max (l.getD n M-F) 0) (↑(ZN h F l c n).length:Int)).toNat (Ld ((min (max (l.getD n M-F+Z1 (Zc h (l.getD n M)).1) 0) (↑(ZN h F l c n).length:Int)).toNat-(min (max (l.getD n M-F) 0) (↑(ZN h F l c n).length:Int)).toNat) [ZD 0])=Lc wD (Lg (min (max (l.getD n M-F) 0) (↑(ZN h F l c n).length:Int)).toNat (ZN h F l c n)++Ld ((min (max (l.getD n M-F+Z1 (Zc h (l.getD n M)).1) 0) (↑(ZN h F l c n).length:Int)).toNat-(min (max (l.getD n M-F) 0) (↑(ZN h F l c n).length:Int)).toNat) 0++Lh ((min (max (l.getD n M-F) 0) (↑(ZN h F l c n).length:Int)).toNat+(Ld ((min (max (l.getD n M-F+Z1 (Zc h (l.getD n M)).1) 0) (↑(ZN h F l c n).length:Int)).toNat-(min (max (l.getD n M-F) 0) (↑(ZN h F l c n).length:Int)).toNat) (0:Int)).length) (ZN h F l c n)))<|Fx 80 n<|Fr (44:Int)<|Fa (by refine congrArg _ ?_;rw[a];simp only[Rx,Gc,Lu]:Lc wD (Lg (min (max (l.getD n M-F) 0) (↑(ZN h F l c n).length:Int)).toNat (ZN h F l c n)++Ld ((min (max (l.getD n M-F+Z1 (Zc h (l.getD n M)).1) 0) (↑(ZN h F l c n).length:Int)).toNat-(min (max (l.getD n M-F) 0) (↑(ZN h F l c n).length:Int)).toNat) 0++Lh ((min (max (l.getD n M-F) 0) (↑(ZN h F l c n).length:Int)).toNat+(Ld ((min (max (l.getD n M-F+Z1 (Zc h (l.getD n M)).1) 0) (↑(ZN h F l c n).length:Int)).toNat-(min (max (l.getD n M-F) 0) (↑(ZN h F l c n).length:Int)).toNat) (0:Int)).length) (ZN h F l c n))=Lc wD (ZN h F l c (n+1))) Fz
def ZhL(h:Heap) F l c:CP (Zn f222 0) (adL h F l c l.length).st (.ext 0) (Tg.st ⟨tm 90 [(4,uU 0),(5,bL Lb),(6,uU F),(8,.ow 25033)],[(25033,.arr 44 1 ((ZN h F l c l.length).map wD))],60⟩):=by exact sF [] []<|Ffb 47 (La ((l.length:Int)<(l.length:Int))) Fz
def Zka(h:Heap)(F:Int)(l c:List Int)(f:Zz h.W)(a:0<=F/\F<=8192)(hl:l.length<=1048576)(b:c.length<=64)(e:∀x∈l,0<=x/\x<=8192):CP (Zl f222 0) (Tg.st ⟨tm 90 [(2,.pt 8002 0 0),(4,uU 0),(5,bL Lb),(6,uU F),(8,.ow 25033),(44,Z2 l),(45,nI l.length),(46,nI 0)],[(25033,.arr 44 1 (c.map wD)),(8002,.box 27 h.cells)],60⟩) .nrm (Tg.st ⟨tm 90 [(4,uU 0),(5,bL Lb),(6,uU F),(8,.ow 25033)],[(25033,.arr 44 1 ((ZN h F l c l.length).map wD))],60⟩):=
 Bs (S:=λn=>(adL h F l c n).st) l.length kr (λn d=>Zkl h F l c n f a hl b e d) (ZhL h F l c)
def Rv(h:Heap)(i:Nat):List Int:=(h.W.drop ((address h.C i 0).1-4096).toNat).take h.C.pw.toNat
def C3(h:Heap)(i:Nat):List Int:=ZN h (address h.C i 0).1 (Zh h (B4 h.P i:Nat)).1 (Rv h i) (Zh h (B4 h.P i:Nat)).1.length
def Z0e(h:Heap)(i:Nat)(hw:Zz h.W)(d:Z9 h=O)(hi:i<h.P.length):GP 222 [h.av,nI i] O (.tu [uU ((address h.C i 0).1+max (C7 (C3 h i)) 0),bL (La (0<=C7 (C3 h i)))]) []:=by
 have e:=B7 d;have ea:(address h.C i 0).1=4096+i*h.C.pw:=by(unfold address;rw[if_pos e.1,if_pos (HT.2 oq)];simp only;omega)
 have ap:=Il e.1 (i:=i) oq oq;have hh:=Z2p h.P i;have hx:(i:Int)*h.C.pw+h.C.pw<=h.W.length:=by
  have h1:((i:Int)+1)*h.C.pw<=h.C.pg*h.C.pw:=LZ oq oq;have h2:((i:Int)+1)*h.C.pw=i*h.C.pw+h.C.pw:=by rw[LA,LB]
  have h3:h.C.pg*h.C.pw=h.C.pw*h.C.pg:=LY _ _;omega
 have hr:=AD d (B4 h.P i:Nat);have hn:=Ra h (B4 h.P i:Nat);have c:(C3 h i).length<=64:=by(rw[C3,Tu,Rv,Lr];omega)
 have f:C7 (C3 h i)<=64/\-1<=C7 (C3 h i):=by(have:GF (C3 h i)<=(C3 h i).length:=(Xi _).length_le;unfold C7;split<;>omega)
 have g:(Rv h i).length<=64:=by rw[Rv,Lr];omega
 unfold C3 Rv at *;let b:=address h.C (i:Int) 0;let a:=ZN h b.1 (Zh h (↑(B4 h.P i):Int)).1 (Lg h.C.pw.toNat (Lh (b.1-4096).toNat h.W)) (Zh h (↑(B4 h.P i):Int)).1.length;exact gF [] func222 []<|Fc 23 (@RQ h.C ((i:Int)) (0))<|Fc 33 (@Zll h.W (b.1) h.C.pw oq oq)<|Fc 40 (@Zbo h i aa aa)<|Fc 41 (@Rj h ((↑(B4 h.P i):Int)) aa oq)<|Fl 45 wD (Zh h (↑(B4 h.P i):Int)).1<|Fu (@Zka h (b.1) ((Zh h (↑(B4 h.P i):Int)).1) (Lg h.C.pw.toNat (Lh (b.1-4096).toNat h.W)) aa oq oq aa aa)<|Fc 82 (@ZkI a oq)<|Fgo 85 (if 0 > C7 a then 0 else C7 a) (max (C7 a) 0)<|Fv 86 (max (C7 a) 0)<|Fv 87 (b.1+max (C7 a) 0) Fz
def unS(fn:Func):Func:=match fn.body with|some (.seq x (.scope c)) => {fn with body:=Lf (.seq x c)}|_=>fn
def Z6f(fn:Func):Code:=match fn.body with|some (.seq x _)=>x|_=>.skip
def Z44(fn:Func):Code:=match fn.body with|some (.seq _ c)=>c|_=>.skip
def Ze9{P c}{n m:Nat}{s t}(f:m≠n)(h:CSpec P c s (.ext m) t):CSpec P (.block n c) s (.ext m) t:=by intro g b j a w i;refine wp_block (wp_mono (h g b j a w i) ?_);rintro e a' w' ⟨rfl,d⟩;show(if m=n then _ else _);rw[if_neg f];exact⟨rfl,d⟩
def ZdO{P fn}{b m:Nat}{S:Nat->St}{t}(n:Nat)(a:RZ b (Zl fn b)=O)(c:m≠b)(h:∀i,i<n->CSpec P (Zn fn b) (S i) .nrm (S (i+1)))(d:CSpec P (Zn fn b) (S n) (.ext m) t):CSpec P (Zl fn b) (S 0) (.ext m) t:=by rw[Oo a];exact Ze9 c (Z2W (Z2N n h (λh=>nomatch h) d))
def fdV(h:Heap)(a k:Int):Int:=(Z5 h.W (a+1+k)).1
def NY(h:Heap)(b:List Int)(a k:Int):Bool:=(fdV h a k != 0)&&!decide (fdV h a k∈b)
def Zdh{h b}{a k:Int}:NY h b a k=O↔¬ fdV h a k=0/\¬ fdV h a k∈b:=by simp[NY]
def Zfk{h b}{a k:Int}:NY h b a k=Lb↔fdV h a k=0\/fdV h a k∈b:=by by_cases c:fdV h a k=0<;>by_cases d:fdV h a k∈b<;>simp[NY,c,d]
def yJ(a:Int)(P:List Int):Nat->Int|0=>0|j+1=>a+1+P.getD j M
def apI(h:Heap)(b:List Int)(i:Nat)(a:Int)(P:List Int)(j:Nat):Tg:=⟨tm 83 [(1,.pt 8001 0 0),(2,.pt 8002 0 0),(3,Z2 b),(5,uU (yJ a P j)),(7,uU a),(24,Z2 b),(25,nI b.length),(26,nI i),(37,ZG P),(38,nI P.length),(39,nI j)],[(8002,.box 188 [nI 0,nI 0,uU 0]),(8001,.box 27 h.cells)],64⟩
section
variable(h:Heap)(b:List Int)(i:Nat)(a:Int)(P:List Int)(j:Nat)(hw:Zz h.W)(c:h.W.length<=1048576)(hl:b.length<=1048576)(hs:b.Pairwise (· < ·))(ha:0<=a/\a<=8192)(hP:P.length<=256)(hk:0<=P.getD j M/\P.getD j M<=256)(hj:j<P.length)
include hw c hl hs ha hP hk hj
theorem Z95(e:NY h b a (P.getD j M)=Lb):CP (Zn (unS f178) 2) (apI h b i a P j).st .nrm (apI h b i a P (j+1)).st:=by have f:yJ a P (j+1)=a+1+P.getD j M:=rfl;have d:=Zfk.1 e;unfold fdV at d;clear e;generalize g:yJ a P (j+1)=y1 at f;unfold apI;rw[g];rcases d with e|e;exact sF [] (fO 5)<|Ftb 40 (La ((j:Int)<(P.length:Int)))<|Fek 41 iD P (↑j) j<|Fv 44 (a+1)<|Fv 46 (P.getD j M)<|Fv 47 (a+1+P.getD j M)<|Fc 52 (@Pu h.W (a+1+P.getD j M) aa oq)<|Fc 58 (@bsearch b ((Z5 h.W (a+1+P.getD j M)).1) aa aa)<|Ffb 66 ((Z5 h.W (a+1+P.getD j M)).1 != 0&&!decide ((Z5 h.W (a+1+P.getD j M)).1∈b))<|Fx 67 j<|Fa ‹a+1+P.getD j M=y1› Fz;exact sF [] (fO 5)<|Ftb 40 (La ((j:Int)<(P.length:Int)))<|Fek 41 iD P (↑j) j<|Fv 44 (a+1)<|Fv 46 (P.getD j M)<|Fv 47 (a+1+P.getD j M)<|Fc 52 (@Pu h.W (a+1+P.getD j M) aa oq)<|Fc 58 (@bsearch b ((Z5 h.W (a+1+P.getD j M)).1) aa aa)<|Ffs 66 ((Z5 h.W (a+1+P.getD j M)).1 != 0&&!decide ((Z5 h.W (a+1+P.getD j M)).1∈b))<|Fx 67 j<|Fa ‹a+1+P.getD j M=y1› Fz
theorem Zju(f:NY h b a (P.getD j M)=O):CP (Zn (unS f178) 2) (apI h b i a P j).st (.ext 0) (Tg.st ⟨tm 83 [(1,.pt 8001 0 0),(2,.pt 8002 0 0),(5,uU (a+1+P.getD j M))],[(8002,.box 188 [nI 0,nI 0,uU 0]),(8001,.box 27 h.cells)],68⟩):=by obtain⟨d,e⟩:=Zdh.1 f;unfold fdV at d e;clear f;exact sF [] []<|Ftb 40 (La ((j:Int)<(P.length:Int)))<|Fek 41 iD P (↑j) j<|Fv 44 (a+1)<|Fv 46 (P.getD j M)<|Fv 47 (a+1+P.getD j M)<|Fc 52 (@Pu h.W (a+1+P.getD j M) aa oq)<|Fc 58 (@bsearch b ((Z5 h.W (a+1+P.getD j M)).1) aa aa)<|Fts 66 ((Z5 h.W (a+1+P.getD j M)).1 != 0&&!decide ((Z5 h.W (a+1+P.getD j M)).1∈b)) Fz
end
def ZlF(h:Heap) b i a P:CP (Zn (unS f178) 2) (apI h b i a P P.length).st (.ext 2) (Tg.st ⟨tm 83 [(1,.pt 8001 0 0),(2,.pt 8002 0 0),(3,Z2 b),(24,Z2 b),(25,nI b.length),(26,nI i)],[(8002,.box 188 [nI 0,nI 0,uU 0]),(8001,.box 27 h.cells)],68⟩):=by exact sF [] []<|Ffb 40 (La ((P.length:Int)<(P.length:Int))) Fz
def Zj6(h:Heap)(b:List Int)(i:Nat)(a:Int)(P:List Int)(m:Zz h.W)(d:h.W.length<=1048576)(hl:b.length<=1048576)(hs:b.Pairwise (· < ·))(f:0<=a/\a<=8192)(e:P.length<=256)(l:∀k∈P,0<=k/\k<=256)(g:P.find? (NY h b a)=Li) :CP (Zl (unS f178) 2) (Tg.st ⟨tm 83 [(1,.pt 8001 0 0),(2,.pt 8002 0 0),(3,Z2 b),(5,uU 0),(7,uU a),(24,Z2 b),(25,nI b.length),(26,nI i),(37,ZG P),(38,nI P.length),(39,nI 0)],[(8002,.box 188 [nI 0,nI 0,uU 0]),(8001,.box 27 h.cells)],64⟩) .nrm (Tg.st ⟨tm 83 [(1,.pt 8001 0 0),(2,.pt 8002 0 0),(3,Z2 b),(24,Z2 b),(25,nI b.length),(26,nI i)],[(8002,.box 188 [nI 0,nI 0,uU 0]),(8001,.box 27 h.cells)],68⟩):=
 Bs (S:=λj=>(apI h b i a P j).st) P.length kr (λj c=>Z95 h b i a P j m d hl hs f e (l _ (C1.2 ⟨j,c,rfl⟩)) c (Z0D g j c)) (ZlF h b i a P)
def Zlx(h:Heap)(b:List Int)(i:Nat)(a:Int)(P:List Int)(x:Int)(l:Zz h.W)(c:h.W.length<=1048576)(hl:b.length<=1048576)(hs:b.Pairwise (· < ·))(f:0<=a/\a<=8192)(e:P.length<=256)(g:∀k∈P,0<=k/\k<=256)(q:P.find? (NY h b a)=Lf x) :CP (Zl (unS f178) 2) (Tg.st ⟨tm 83 [(1,.pt 8001 0 0),(2,.pt 8002 0 0),(3,Z2 b),(5,uU 0),(7,uU a),(24,Z2 b),(25,nI b.length),(26,nI i),(37,ZG P),(38,nI P.length),(39,nI 0)],[(8002,.box 188 [nI 0,nI 0,uU 0]),(8001,.box 27 h.cells)],64⟩) (.ext 0) (Tg.st ⟨tm 83 [(1,.pt 8001 0 0),(2,.pt 8002 0 0),(5,uU (a+1+x))],[(8002,.box 188 [nI 0,nI 0,uU 0]),(8001,.box 27 h.cells)],68⟩):=by
 obtain⟨n,d,m,o,p⟩:=A4 q;subst m;exact ZdO (S:=λj=>(apI h b i a P j).st) n kr dd (λj r=>Z95 h b i a P j l c hl hs f e (g _ (C1.2 ⟨j,by omega,rfl⟩)) oq (p j r)) (Zju h b i a P n l c hl hs f e (g _ (C1.2 ⟨n,d,rfl⟩)) d o)
def apF(h:Heap)(b:List Int)(a:Int):Option Int:=(ZA (Zc h a).1).find? (NY h b a)
def apL(h:Heap)(a:List Int)(i:Nat):Tg:=⟨tm 83 [(1,.pt 8001 0 0),(2,.pt 8002 0 0),(3,Z2 a),(5,uU 0),(24,Z2 a),(25,nI a.length),(26,nI i)],[(8002,.box 188 [nI 0,nI 0,uU 0]),(8001,.box 27 h.cells)],60⟩
def Z3Q(h:Zo):∀n:Nat,∀k∈Cr h n,0<=k/\k<n
 |0,k,hk=>by simp[Cr]at hk
 |n+1,k,hk=>by
  unfold Cr at hk;split at hk
  .rcases Xc.1 hk with hk|hk
   .have:=Z3Q h n k hk;omega
   .simp only[Xd,List.not_mem_nil,or_false]at hk;omega
  .have:=Z3Q h n k hk;omega
def Z2j(h:Zo):(ZA h).length<=256/\∀k∈ZA h,0<=k/\k<=256:=by
 rw[<-Za4];have hs:=Ip h;have h1:=Mz h (Z1 h).toNat
 exact⟨by omega,λk a=>by have:=Z3Q h _ k a;omega⟩
section
variable(h:Heap)(a:List Int)(i:Nat)(d:Zz h.W)(e:h.W.length<=1048576)(hl:a.length<=1048576)(hs:a.Pairwise (· < ·))(c:∀x∈a,0<=x/\x<=8192)(b:i<a.length)
include d e hl hs c b
theorem Z61(k:apF h a (a.getD i M)=Li):CP (Zn (unS f178) 0) (apL h a i).st .nrm (apL h a (i+1)).st:=by have hx:=c (a.getD i M) (C1.2 ⟨i,b,rfl⟩);have hm:=IE d (a.getD i M);have j:=Z2j (Zc h (a.getD i M)).1;have l:=j.1;have m:=j.2;unfold apF at k;let f:=a.getD i M;let g:=ZA (Zc h f).1;exact sF [] []<|Fk (2,Tg.mk (tm 83 [(1,AV.pt 8001 0 0),(2,AV.pt 8002 0 0),(3,Z2 a),(5,uU 0),(7,uU f),(24,Z2 a),(25,nI ↑a.length),(26,nI ↑i),(37,ZG g),(38,nI (g.length:Int)),(39,nI 0)]) [(8002,Z3.box 188 [nI 0,nI 0,uU 0]),(8001,Z3.box 27 h.cells)] 64,Ex.nrm,Tg.mk (tm 83 [(1,AV.pt 8001 0 0),(2,AV.pt 8002 0 0),(3,Z2 a),(24,Z2 a),(25,nI ↑a.length),(26,nI ↑i)]) [(8002,Z3.box 188 [nI 0,nI 0,uU 0]),(8001,Z3.box 27 h.cells)] 68)<|Ftb 27 (La ((i:Int)<(a.length:Int)))<|Fek 28 wD a (↑i) i<|Fc 33 (@Np h f aa oq)<|Fc 37 (@Pz ((Zc h f).1) aa)<|Fl 38 iD g<|Fa (@Zj6 h a i f g aa aa aa aa aa aa aa aa)<|Fx 68 i Fz
theorem Zat x(k:apF h a (a.getD i M)=Lf x):CP (Zn (unS f178) 0) (apL h a i).st (.ext 0) (Tg.st ⟨tm 83 [(1,.pt 8001 0 0),(2,.pt 8002 0 0),(5,uU (a.getD i M+1+x))],[(8002,.box 188 [nI 0,nI 0,uU 0]),(8001,.box 27 h.cells)],72⟩):=by have hx:=c (a.getD i M) (C1.2 ⟨i,b,rfl⟩);have hm:=IE d (a.getD i M);have j:=Z2j (Zc h (a.getD i M)).1;have l:=j.1;have m:=j.2;unfold apF at k;let f:=a.getD i M;let g:=ZA (Zc h f).1;exact sF [] []<|Fk (2,Tg.mk (tm 83 [(1,AV.pt 8001 0 0),(2,AV.pt 8002 0 0),(3,Z2 a),(5,uU 0),(7,uU f),(24,Z2 a),(25,nI ↑a.length),(26,nI ↑i),(37,ZG g),(38,nI (g.length:Int)),(39,nI 0)]) [(8002,Z3.box 188 [nI 0,nI 0,uU 0]),(8001,Z3.box 27 h.cells)] 64,Ex.ext 0,Tg.mk (tm 83 [(1,AV.pt 8001 0 0),(2,AV.pt 8002 0 0),(5,uU (a.getD i M+1+x))]) [(8002,Z3.box 188 [nI 0,nI 0,uU 0]),(8001,Z3.box 27 h.cells)] 68)<|Ftb 27 (La ((i:Int)<(a.length:Int)))<|Fek 28 wD a (↑i) i<|Fc 33 (@Np h f aa oq)<|Fc 37 (@Pz ((Zc h f).1) aa)<|Fl 38 iD g<|Fa (@Zlx h a i f g x aa aa aa aa aa aa aa aa) Fz
end
def Zdx(h:Heap) a:CP (Zn (unS f178) 0) (apL h a a.length).st (.ext 0) (Tg.st ⟨tm 83 [(1,.pt 8001 0 0),(2,.pt 8002 0 0),(5,uU 0)],[(8002,.box 188 [nI 0,nI 0,uU 0]),(8001,.box 27 h.cells)],72⟩):=by exact sF [] []<|Ffb 27 (La ((a.length:Int)<(a.length:Int))) Fz
def Zhw(h:Heap)(b:List Int)(g:Zz h.W)(c:h.W.length<=1048576)(hl:b.length<=1048576)(hs:b.Pairwise (· < ·))(f:∀x∈b,0<=x/\x<=8192)(e:b.find? (λa=>(apF h b a).isSome)=Li)  := Bs (S:=λi=>(apL h b i).st) b.length (by kernel_rfl) (λi d=>Z61 h b i g c hl hs f d (by simpa using Z0D e i d)) (Zdx h b)
def ZjV(h:Heap)(b:List Int)(a x:Int)(e:Zz h.W)(c:h.W.length<=1048576)(hl:b.length<=1048576)(hs:b.Pairwise (· < ·))(d:∀x∈b,0<=x/\x<=8192)(k:b.find? (λa=>(apF h b a).isSome)=Lf a)(m:apF h b a=Lf x):CP (Zl (unS f178) 0) (Tg.st ⟨tm 83 [(1,.pt 8001 0 0),(2,.pt 8002 0 0),(3,Z2 b),(5,uU 0),(24,Z2 b),(25,nI b.length),(26,nI 0)],[(8002,.box 188 [nI 0,nI 0,uU 0]),(8001,.box 27 h.cells)],60⟩) .nrm (Tg.st ⟨tm 83 [(1,.pt 8001 0 0),(2,.pt 8002 0 0),(5,uU (a+1+x))],[(8002,.box 188 [nI 0,nI 0,uU 0]),(8001,.box 27 h.cells)],72⟩):=by obtain⟨n,f,g,h3,j⟩:=A4 k;subst g;exact Bs (S:=λi=>(apL h b i).st) n kr (λi l=>Z61 h b i e c hl hs d oq (by simpa using j i l)) (Zat h b n e c hl hs d f x m)
def ZkY(h:Heap):CP (Z6f (unS f178)) (Tg.st ⟨tm 83 [(0,h.av)],[],1⟩) .nrm (Tg.st ⟨tm 83 [(1,.pt 8001 0 0),(2,.pt 8002 0 0)],[(8002,.box 188 [nI 0,nI 0,uU 0]),(8001,.box 27 h.cells)],20⟩):=by exact sF [] [] Fz
def Si(h:Heap):Int:=match (Zt h).1.find? (λa=>(apF h (Zt h).1 a).isSome)with|some a=>a+1+(apF h (Zt h).1 a).getD 0|none=>0
def CL(h:Heap):C8:=if Si h=0 then⟨0,0,0⟩else⟨6,(Z4 h.C (Si h)).1,Si h⟩
def Zaa(h:Heap)(hw:Zz h.W)(j:h.W.length<=1048576):CP (Z44 (unS f178)) (Tg.st ⟨tm 83 [(1,.pt 8001 0 0),(2,.pt 8002 0 0)],[(8002,.box 188 [nI 0,nI 0,uU 0]),(8001,.box 27 h.cells)],20⟩) .ret (Tg.st ⟨tm 83 [(2,.pt 8002 0 0)],[(8002,.box 188 [nI (CL h).fault,nI (CL h).page,uU (CL h).addr])],90⟩):=by
 have hl:=AI h;have hs:=Z4z h;have i:=Z3U h;cases hf:(Zt h).1.find? (λa=>(apF h (Zt h).1 a).isSome)with
 |none =>
  have b:Si h=0:=by simp only[Si,hf]
  have c:CL h=⟨0,0,0⟩:=if_pos b;rw[c];exact sF [] []<|Fk (0,Tg.mk (tm 83 [(1,AV.pt 8001 0 0),(2,AV.pt 8002 0 0),(3,Z2 (Zt h).1),(5,uU 0),(24,Z2 (Zt h).1),(25,nI (↑(Zt h).1.length:Int)),(26,nI 0)]) [(8002,Z3.box 188 [nI 0,nI 0,uU 0]),(8001,Z3.box 27 h.cells)] 60,Ex.nrm,Tg.mk (tm 83 [(1,AV.pt 8001 0 0),(2,AV.pt 8002 0 0),(5,uU 0)]) [(8002,Z3.box 188 [nI 0,nI 0,uU 0]),(8001,Z3.box 27 h.cells)] 72)<|Fc 21 (@Z06 h aa)<|Fl 25 wD (Zt h).1<|Fa (@Zhw h ((Zt h).1) aa aa oq aa aa aa) Fz
 |some a =>
  obtain⟨n,e,f,g,h4⟩:=A4 hf;obtain⟨x,d⟩:=Xm.1 g;have ha:=i a (C1.2 ⟨n,e,f⟩);have k:=(Z2j (Zc h a).1).2 x (Xe d);have b:Si h=a+1+x:=by simp only[Si,hf,d,LO]
  have c:CL h=⟨6,(Z4 h.C (a+1+x)).1,a+1+x⟩:=by rw[CL,b,if_neg oq]
  rw[c];exact sF [] []<|Fk (0,Tg.mk (tm 83 [(1,AV.pt 8001 0 0),(2,AV.pt 8002 0 0),(3,Z2 (Zt h).1),(5,uU 0),(24,Z2 (Zt h).1),(25,nI (↑(Zt h).1.length:Int)),(26,nI 0)]) [(8002,Z3.box 188 [nI 0,nI 0,uU 0]),(8001,Z3.box 27 h.cells)] 60,Ex.nrm,Tg.mk (tm 83 [(1,AV.pt 8001 0 0),(2,AV.pt 8002 0 0),(5,uU (a+1+x))]) [(8002,Z3.box 188 [nI 0,nI 0,uU 0]),(8001,Z3.box 27 h.cells)] 72)<|Fc 21 (@Z06 h aa)<|Fl 25 wD (Zt h).1<|Fa (@ZjV h ((Zt h).1) a x aa aa oq aa aa aa aa)<|Ffb 70 (a+1+x==0)<|Fc 76 (@Gs h.C (a+1+x) oq oq) Fz
end Go.Proofs.YtkmnngahjnkdmaaGreat
namespace Go.Proofs.YtkmnngahjnkdmaaGreat
open Go.Sx Go.RowKit
def C8.val(f:C8):Value:=.agg #[.int .i64 f.fault,.int .i64 f.page,.int .u64 f.addr]
def Zf6 ρ w Im(f:C8):Zk ρ w Im f.av f.val:=by refine .ag _ _ rfl (λi v h=>?_) (λi a v b c=>?_);rcases i with _|_|_|i<;>simp at h<;>subst h<;>rfl;rcases i with _|_|_|i<;>simp at b c<;>subst b<;>subst c<;>exact .d (.sc _ rfl)
def Zkd{ρ w Im}{f:C8}{v}(h:Zk ρ w Im f.av v):v=f.val:=by obtain⟨b,c,d,h3,e⟩:=Hx h;rw[c];have g:∀(k:Nat) (a:k<b.size) (v:Value),[nI f.fault,nI f.page,uU f.addr][k]?=Lf (.d (.sc v))->b[k]=v:=λk a v j=>BV (e k _ b[k] j (Array.getElem?_eq_getElem a));have i:b.size=3:=d;simp only[C8.val];congr 1;apply Array.ext;simp[i];intro k a _;rcases k with _|_|_|k;exact g 0 a _ rfl;exact g 1 a _ rfl;exact g 2 a _ rfl;omega
def noGoto_ret{Q:Exit->Act->World->Prop}{a w}(h:Q .ret a w):Exit.noGoto Q Ex.ret.exit a w:=h
def Z11(h:Heap)(hw:Zz h.W)(p:h.W.length<=1048576):GP 178 [h.av] O (CL h).av []:=by
 intro f t r j d a;have c:r.size=1:=d;have b:Tryz.f178.body=Lf (.seq (Z6f (unS f178)) (.scope (Z44 (unS f178)))):=by kernel_rfl
 refine calls_of_wp func178 b ?_;have w:Sx.Sys EU t f (tm 83 [(0,h.av)]) (Bv []) 1 {tmps:=r++LR (Tryz.f178.ntmps-r.size) undef,defers:=[]} f:=by(refine⟨_,t,Sx.Inv.empty j (Ly 1),⟨by rw[c];simp[c];kernel_rfl,λk y v g m=>?_,rfl⟩⟩;rw[show tm 83 [(0,h.av)]=[h.av]++Ld 82 .any from by kernel_rfl,L3]at g;rw[LQ]at m;split at g;rename_i z;rw[if_pos (by rw[d];exact z)]at m;exact a k y v g m;have:=Xf g;rw[(Xg.1 this).2];exact .any _)
 refine wp_seq (wp_mono (ZkY h _ _ _ _ _ w) ?_);rintro e a1 w1 ⟨rfl,x⟩;refine wp_scope_straight (wp_mono (Zaa h hw p _ _ _ _ _ x) ?_);rintro e a2 w2 ⟨rfl,ρ2,i,s,u⟩;obtain⟨v,n,o⟩:=Z1U (P:=prog) (fn:=f178) (l:=[(CL h).av]) s u kr;refine noGoto_ret (bodyPost_ret n u.defers ⟨v,rfl,s.kept.no,λ_=>Li,λ_=>False,λ_ q=>q.elim,λ_ q=>q.elim,λ_ _ _ q=>(by cases q),λ_ _ _ _ _ q=>(by cases q),λ_ _ q=>(by cases q),λk B q=>by simp at q, ?_⟩);rw[Zkd (show Zk ρ2 w2 i (CL h).av v from o)];exact Zf6 _ _ _ _
end Go.Proofs.YtkmnngahjnkdmaaGreat
namespace Go.Proofs.YtkmnngahjnkdmaaGreat
open Go.Sx
def Zcn{c:List Int}{x k:Int}(f:0<=k){o:Nat}(ho:o<c.length):(Rx c x k).getD o 0=if x<=o/\(o:Int)<x+k then 0 else c.getD o 0:=by
 have h1:Gc c x<=c.length:=Z0d c x;have h2:Gc c (x+k)<=c.length:=Z0d c (x+k);have h3:=Z6o c x f;have e:Gc c x+(Gc c (x+k)-Gc c x)=Gc c (x+k):=by omega
 have a1:o<Gc c x↔(o:Int)<x:=by unfold Gc;omega
 have a:o<Gc c (x+k)↔(o:Int)<x+k:=by unfold Gc;omega
 unfold Rx;rw[e];simp only[Lj];by_cases b:o<Gc c x;rw[LN,L4 qo,LD,if_pos b,if_neg (by have:=a1.1 b;omega)];by_cases d:o<Gc c (x+k);rw[L4 qo,L5 qo,if_pos (by have:=a.1 d;omega)];rw[List.getElem?_replicate,if_pos qo];rfl;rw[L5 qo,LC,if_neg (λq=>d (a.2 q.2))];congr 2;simp;omega
def Z6W{h F}{l c:List Int}{o:Nat}(e:o<c.length):∀n:Nat,n<=l.length->(ZN h F l c n).getD o 0=if(l.take n).any (λa=>La (a-F<=o)&&La ((o:Int)<a-F+GJ h a))=O then 0 else c.getD o 0
 |0,_=>by simp[ZN]
 |n+1,hn=>by
  have hl:=Tu h F l c n;rw[ZN,Zcn (Z4R h _).1 oq,Z6W e n oq,Ta oq,List.any_append];generalize l.getD n M=a;generalize (l.take n).any _=b;by_cases d:a-F<=o/\(o:Int)<a-F+GJ h a
  .rw[if_pos d,if_pos (by simp[d])]
  .rw[if_neg d];have:([a].any λa=>La (a-F<=(o:Int))&&La ((o:Int)<a-F+GJ h a))=Lb:=by
    simp only[List.any_cons,List.any_nil,LW,Bool.and_eq_false_iff,decide_eq_false_iff_not];omega
   rw[this,LW]
def Py{h:Heap}(a:Z9 h=O){i:Nat}(hi:i<h.P.length){o:Int}(ho:0<=o/\o<h.C.pw):(address h.C i o).1=4096+(i*h.C.pw+o):=by have b:=B7 a;unfold address;rw[if_pos b.1,if_pos (HT.2 oq)]
def Z2o{h:Heap}(a:Z9 h=O){i:Nat}(hi:i<h.P.length):0<=(i:Int)*h.C.pw/\(i:Int)*h.C.pw+h.C.pw<=h.W.length:=by
 have po:=B7 a;have h1:((i:Int)+1)*h.C.pw<=h.C.pg*h.C.pw:=LZ oq oq;have h2:((i:Int)+1)*h.C.pw=i*h.C.pw+h.C.pw:=by rw[LA,LB]
 have h3:h.C.pg*h.C.pw=h.C.pw*h.C.pg:=LY _ _;have h4:(0:Int)<=i*h.C.pw:=Int.mul_nonneg oq oq;omega
def ZkM{h:Heap}(a:Z9 h=O){i:Nat}(b:i<h.P.length):(Rv h i).length=h.C.pw.toNat/\∀o:Nat,o<h.C.pw.toNat->(Rv h i).getD o 0=Gz h i o:=by have po:=B7 a;have pi:=Z2o a b;have c:=Py a b (o:=0) oq;constructor;simp only[Rv,Lr,Lt];omega;intro o e;have d:=Py a b (o:=o) oq;unfold Gz Z5;rw[d];rw[if_pos oq];simp only[Rv,Lj,LD,LC,if_pos e];rw[c,show(4096+((i:Int)*h.C.pw+0)-4096).toNat+o=(4096+((i:Int)*h.C.pw+(o:Int))-4096).toNat from by omega]
def Z2r{h:Heap}(b:Z9 h=O){i:Nat}(c:i<h.P.length):(C3 h i).length=h.C.pw.toNat/\∀o:Nat,o<h.C.pw.toNat->(C3 h i).getD o 0=if(CQ h i).getD o M=O then 0 else Gz h i o:=by
 have po:=B7 b;obtain⟨r1,r2⟩:=ZkM b c;constructor;rw[C3,Tu,r1];intro o d;rw[C3,Z6W oq _ (Ly _),List.take_length,r2 o d];have f:=Py b c (o:=0) oq;have e:(CQ h i).getD o M=(Zh h (B4 h.P i:Nat)).1.any (λa=>La (a-(address h.C i 0).1<=(o:Int))&&La ((o:Int)<a-(address h.C i 0).1+GJ h a)):=by(unfold CQ Cx;rw[Lj,List.getElem?_map,List.getElem?_range d];simp only[Xn,LO];congr 1;funext a;unfold Dq;rw[f,show a-(4096+((i:Int)*h.C.pw+0))=a-4096-i*h.C.pw from by omega])
 rw[e]
def Z8D{h:Heap}(hp:Z9 h=O){i:Nat}(hi:i<h.P.length)(e:GF (C3 h i)<(C3 h i).length):Eu h i (CQ h i)=4096+i*h.C.pw+GF (C3 h i):=by
 obtain⟨c1,c2⟩:=Z2r hp hi;have hu:=MY h i;have hf:(Ln (CQ h i).length).find? (Hz h i (CQ h i))=Lf (GF (C3 h i)):=by
  rw[Ls];refine⟨?_,Lm.2 oq,λj hj=>?_⟩
  .have h1:=Z41 e;rw[show(M:Int)=0 from rfl,c2 _ oq]at h1;split at h1
   .exact absurd rfl h1
   .rename_i h2;simp only[Hz,LV,LI,decide_eq_true_eq];exact⟨by simpa using h2,h1⟩
  .have h1:=(Z00 hj).2;rw[show(M:Int)=0 from rfl,c2 _ oq]at h1;simp only[Hz,Bool.not_and,Bool.not_not,Bool.or_eq_true,LI,decide_eq_false_iff_not];split at h1
   .rename_i h2;exact .inl h2
   .exact .inr (λq=>q h1)
 unfold Eu;rw[hf]
def Zlu{h:Heap}(hp:Z9 h=O){i:Nat}(hi:i<h.P.length)(e:¬ GF (C3 h i)<(C3 h i).length):Eu h i (CQ h i)=0:=by
 obtain⟨c1,c2⟩:=Z2r hp hi;have hu:=MY h i;have hf:(Ln (CQ h i).length).find? (Hz h i (CQ h i))=Li:=by
  rw[Lw];intro j hj;have hj:=Lm.1 hj;have h1:=(Z00 (l:=C3 h i) (m:=j) oq).2;rw[show(M:Int)=0 from rfl,c2 _ oq]at h1;simp only[Hz,LV,LI,decide_eq_true_eq,not_and];intro h2 h3;rw[if_neg (by rw[h2];simp)]at h1;exact h3 h1
 unfold Eu;rw[hf]
def Z2d{h:Heap}(a:Z9 h=O){i:Nat}(c:i<h.P.length):G5 h i (Zh h i).1=La (Cs h i (Zh h i).1≠0):=by
 unfold Cs G5;cases hf:(Zh h i).1.find? (Gv h i)with
 |none=>simp
 |some x =>
  have b:=Xe hf;have e:=Z1b a (i:=i) oq;rw[e]at b;obtain⟨y,d,rfl⟩:=Lx.1 b;have h1:=(Z1Z y d).1;have h2:=(Z2o a c).1;have:y.addr≠0:=by omega
  simp[this]
def find_congr{α:Type}{p q:α->Bool}:∀{l:List α},(∀x∈l,p x=q x)->l.find? p=l.find? q
 |[],_=>rfl
 |a::l,h=>by
  rw[L2,L2,h a pq,find_congr (l:=l) (λx b=>h x (by simp[b]))]
def find_range{l:List Int}{p:Int->Bool}:match (Ln l.length).find? (λi=>p (l.getD i M))with|Li=>l.find? p=Li|Lf i=>l.find? p=Lf (l.getD i M):=by
 split;rename_i a;rw[Lw]at a⊢;intro x j;obtain⟨i,g,e⟩:=C1.1 j;have:=a i (Lm.2 g);rwa [e]at this;rename_i i a;obtain⟨c,b,f⟩:=Ls.1 a;have b:=Lm.1 b;cases hf:l.find? p with
 |none =>have:=Lw.1 hf (l.getD i M) (C1.2 ⟨i,b,rfl⟩);exact absurd c this
 |some x =>
  obtain⟨n,k1,d,k,m⟩:=A4 hf;have h:n=i:=by(rcases Nat.lt_trichotomy n i with q|q|q;have:=f n q;rw[d,k]at this;cases this;exact q;have:=m i q;rw[c]at this;cases this)
  subst h;rw[d]
def TJ{h}{a:Int}(b:a∈(Zt h).1):(Zc h a).2=0/\(Zc h a).1.K≠0:=by by_cases e:(CC h).2=0;rw[Z4p h e]at b;obtain⟨x,i,rfl⟩:=Lx.1 b;obtain⟨c,d⟩:=List.mem_filter.1 i;obtain⟨f,g⟩:=Z9E x c;refine⟨g, ?_⟩;rw[<-f];simpa[Eo]using d;rw[Z5K h e]at b;simp at b
def Z5N(hd:Zo):∀n:Nat,Cr hd n=((Ln n).filter (λk:Nat=>BI hd k)).map (λk:Nat=>(k:Int))
 |0=>rfl
 |n+1=>by
  rw[Cr,List.range_succ,List.filter_append,Lv,<-Z5N hd n];by_cases h:BI hd (n:Int)=O
  .rw[if_pos h];simp[h]
  .rw[if_neg h];simp[h]
def My(h:Heap)(b:List Int)(a:Int):Option Nat:=(Ln (CG h a).1.length).find? (N5 (Zy h a).1 (CG h a).1 b)
def Z8p{h a}(e:(Zc h a).2=0)(b:(Zc h a).1.K≠0) c:apF h c a=(My h c a).map (λk:Nat=>(k:Int)):=by
 have i1:=Z1K e;have m:=(MN e).1;have d:Zy h a=Zc h a:=by(unfold Zy;rw[if_pos m,if_neg oq,if_neg (λq=>b q.2)])
 have f:=Su (h:=h) (a:=a) (by rw[d];exact e);rw[d]at f;have l:=f.2.2.2.2.2.2.1;have hl:=f.2.2.2.2.2.2.2.2.2;have g:(CG h a).1=(h.W.drop (a+1-4096).toNat).take (Zc h a).1.length.toNat:=by(unfold CG;rw[d,if_pos e,C4,if_neg oq,if_pos oq])
 have j:(CG h a).1.length=(Zc h a).1.length.toNat:=by(rw[g,Lr,Lt];omega)
 have i:∀k:Nat,k<(Zc h a).1.length.toNat->(CG h a).1.getD k M=fdV h a k:=by(intro k b;unfold fdV Z5;rw[if_pos oq,g];simp only[Lj,LD,LC,if_pos b];rw[show(a+1-4096).toNat+k=(a+1+(k:Int)-4096).toNat from by omega];rfl)
 unfold apF My ZA;rw[if_pos l,Z5N,List.find?_map,List.find?_filter,j,d];congr 1;refine find_congr λk b=>?_;have b:=Lm.1 b;rw[N5,i k b];simp only[Function.comp,NY];cases BI (Zc h a).1 (k:Int)<;>simp
def ZiN(h:Heap):CL h=ER h (Zt h).1:=by
 have c:=find_range (l:=(Zt h).1) (p:=λa=>(My h (Zt h).1 a).isSome);have m:(Zt h).1.find? (λa=>(apF h (Zt h).1 a).isSome)=(Zt h).1.find? (λa=>(My h (Zt h).1 a).isSome):=find_congr λa g=>by(rw[Z8p (TJ g).1 (TJ g).2,Option.isSome_map])
 unfold CL Si ER;rw[m];change match (Ln (Zt h).1.length).find? (λi=>(HI h (Zt h).1 i).isSome)with|Li=>_|Lf i=>_ at c
 split at c;rename_i b;rw[c,b];rfl;rename_i i b;have f:=(Ls.1 b);have e:(Zt h).1.getD i M∈(Zt h).1:=C1.2 ⟨i,Lm.1 f.2.1,rfl⟩;obtain⟨k,j⟩:=Xm.1 f.1;have d:My h (Zt h).1 ((Zt h).1.getD i M)=Lf k:=j;have i1:=Z1K (TJ e).1;rw[c,b];simp only[j,Z8p (TJ e).1 (TJ e).2,d,Xn,LO];rw[if_neg oq]
def NX(h:Heap)(i:Nat):Tg:=⟨tm 64 [(1,.pt 8001 0 0),(2,.pt 8002 0 0),(12,ZJ h.P),(13,nI h.P.length),(14,nI i)],[(8002,.box 188 [nI 0,nI 0,uU 0]),(8001,.box 27 h.cells)],60⟩
def AX(f:C8):Tg:=⟨tm 64 [(2,.pt 8002 0 0)],[(8002,.box 188 [nI f.fault,nI f.page,uU f.addr])],64⟩
section
variable(h:Heap)(i:Nat)(c:Zz h.W)(a:Z9 h=O)(b:i<h.P.length)
include c a b
theorem Ze1(e:Eu h i (CQ h i)=0):C7 (C3 h i)=-1:=by by_cases d:GF (C3 h i)<(C3 h i).length;have h1:=Z8D a b d;have h2:=(Z2o a b).1;omega;exact if_neg d
theorem ZaE(e:¬ Eu h i (CQ h i)=0):0<=C7 (C3 h i)/\C7 (C3 h i)<=64/\Eu h i (CQ h i)=(address h.C i 0).1+C7 (C3 h i):=by have po:=B7 a;by_cases d:GF (C3 h i)<(C3 h i).length;have f:=Z8D a b d;have g:C7 (C3 h i)=GF (C3 h i):=if_pos d;have j:=Py a b (o:=0) oq;have h4:=(Z2r a b).1;rw[f,g,j];omega;exact absurd (Zlu a b d) e
theorem Z7Z(d:(h.P.getD i M).K=0\/(h.P.getD i M).S=h.S)(n2:(Zh h (i:Int)).2=0)(f:Cs h (i:Int) (Zh h (i:Int)).1=0)(g:Eu h i (CQ h i)=0):CP (Zn f177 0) (NX h i).st .nrm (NX h (i+1)).st:=by have po:=B7 a;have hn:=Ra h (i:Int);have hr:=AD a (i:Int);have e:=Z2d a b;rw[f]at e;have q4:=Ze1 h i c a b g;simp only[ne_eq,not_true_eq_false,decide_false]at e;rcases d with d|d;exact sF [] []<|Fh 48 [.br Lb]<|Fh 58 [.br Lb]<|Ftb 15 (La ((i:Int)<(h.P.length:Int)))<|Fek 17 Z0.dv h.P (↑i) i<|Ffb 28 ((h.P.getD i M).K != 0&&(h.P.getD i M).S != h.S)<|Fc 34 (@Rj h ((i:Int)) aa oq)<|Ffb 38 ((Zh h (i:Int)).2 != 0)<|Fc 45 (@Mf h ((i:Int)) ((Zh h (i:Int)).1) aa oq oq oq aa)<|Fa ‹G5 h (i:Int) (Zh h (i:Int)).1=Lb›<|Fc 55 (@Z0e h i aa aa aa)<|Fb (La (0<=C7 (C3 h i))=Lb)<|Fx 62 i Fz;exact sF [] []<|Fh 48 [.br Lb]<|Fh 58 [.br Lb]<|Ftb 15 (La ((i:Int)<(h.P.length:Int)))<|Fek 17 Z0.dv h.P (↑i) i<|Ffb 28 ((h.P.getD i M).K != 0&&(h.P.getD i M).S != h.S)<|Fc 34 (@Rj h ((i:Int)) aa oq)<|Ffb 38 ((Zh h (i:Int)).2 != 0)<|Fc 45 (@Mf h ((i:Int)) ((Zh h (i:Int)).1) aa oq oq oq aa)<|Fa ‹G5 h (i:Int) (Zh h (i:Int)).1=Lb›<|Fc 55 (@Z0e h i aa aa aa)<|Fb (La (0<=C7 (C3 h i))=Lb)<|Fx 62 i Fz
theorem ZkW(d:¬ (h.P.getD i M).K=0/\¬ (h.P.getD i M).S=h.S):CP (Zn f177 0) (NX h i).st .ret (AX ⟨2,i,0⟩).st:=by have po:=B7 a;obtain⟨d,n2⟩:=d;exact sF [] []<|Ftb 15 (La ((i:Int)<(h.P.length:Int)))<|Fek 17 Z0.dv h.P (↑i) i<|Ftb 28 ((h.P.getD i M).K != 0&&(h.P.getD i M).S != h.S) Fz
theorem Zhi(d:(h.P.getD i M).K=0\/(h.P.getD i M).S=h.S)(n2:¬ (Zh h (i:Int)).2=0):CP (Zn f177 0) (NX h i).st .ret (AX ⟨3,i,0⟩).st:=by have po:=B7 a;rcases d with d|d;exact sF [] []<|Ftb 15 (La ((i:Int)<(h.P.length:Int)))<|Fek 17 Z0.dv h.P (↑i) i<|Ffb 28 ((h.P.getD i M).K != 0&&(h.P.getD i M).S != h.S)<|Fc 34 (@Rj h ((i:Int)) aa oq)<|Ftb 38 ((Zh h (i:Int)).2 != 0) Fz;exact sF [] []<|Ftb 15 (La ((i:Int)<(h.P.length:Int)))<|Fek 17 Z0.dv h.P (↑i) i<|Ffb 28 ((h.P.getD i M).K != 0&&(h.P.getD i M).S != h.S)<|Fc 34 (@Rj h ((i:Int)) aa oq)<|Ftb 38 ((Zh h (i:Int)).2 != 0) Fz
theorem Zej(d:(h.P.getD i M).K=0\/(h.P.getD i M).S=h.S)(n2:(Zh h (i:Int)).2=0)(e:¬ Cs h (i:Int) (Zh h (i:Int)).1=0):CP (Zn f177 0) (NX h i).st .ret (AX ⟨5,i,Cs h (i:Int) (Zh h (i:Int)).1⟩).st:=by
 have po:=B7 a;have hn:=Ra h (i:Int);have hr:=AD a (i:Int);have q3:G5 h i (Zh h i).1=O:=by rw[Z2d a b];simpa using e
 rcases d with d|d;exact sF [] []<|Fh 48 [.br O]<|Ftb 15 (La ((i:Int)<(h.P.length:Int)))<|Fek 17 Z0.dv h.P (↑i) i<|Ffb 28 ((h.P.getD i M).K != 0&&(h.P.getD i M).S != h.S)<|Fc 34 (@Rj h ((i:Int)) aa oq)<|Ffb 38 ((Zh h (i:Int)).2 != 0)<|Fc 45 (@Mf h ((i:Int)) ((Zh h (i:Int)).1) aa oq oq oq aa)<|Fa ‹G5 h (i:Int) (Zh h (i:Int)).1=O› Fz;exact sF [] []<|Fh 48 [.br O]<|Ftb 15 (La ((i:Int)<(h.P.length:Int)))<|Fek 17 Z0.dv h.P (↑i) i<|Ffb 28 ((h.P.getD i M).K != 0&&(h.P.getD i M).S != h.S)<|Fc 34 (@Rj h ((i:Int)) aa oq)<|Ffb 38 ((Zh h (i:Int)).2 != 0)<|Fc 45 (@Mf h ((i:Int)) ((Zh h (i:Int)).1) aa oq oq oq aa)<|Fa ‹G5 h (i:Int) (Zh h (i:Int)).1=O› Fz
theorem ZiT(d:(h.P.getD i M).K=0\/(h.P.getD i M).S=h.S)(n2:(Zh h (i:Int)).2=0)(g:Cs h (i:Int) (Zh h (i:Int)).1=0)(j:¬ Eu h i (CQ h i)=0):CP (Zn f177 0) (NX h i).st .ret (AX ⟨4,i,Eu h i (CQ h i)⟩).st:=by
 have po:=B7 a;have hn:=Ra h (i:Int);have hr:=AD a (i:Int);have e:=Z2d a b;rw[g]at e;simp only[ne_eq,not_true_eq_false,decide_false]at e;obtain⟨q4,q5,k⟩:=ZaE h i c a b j;have f:max (C7 (C3 h i)) 0=C7 (C3 h i):=by omega
 rw[k];rcases d with d|d;exact sF [] (fO 6)<|Fh 48 [.br Lb]<|Fh 58 [.br O]<|Ftb 15 (La ((i:Int)<(h.P.length:Int)))<|Fek 17 Z0.dv h.P (↑i) i<|Ffb 28 ((h.P.getD i M).K != 0&&(h.P.getD i M).S != h.S)<|Fc 34 (@Rj h ((i:Int)) aa oq)<|Ffb 38 ((Zh h (i:Int)).2 != 0)<|Fc 45 (@Mf h ((i:Int)) ((Zh h (i:Int)).1) aa oq oq oq aa)<|Fa ‹G5 h (i:Int) (Zh h (i:Int)).1=Lb›<|Fc 55 (@Z0e h i aa aa aa)<|Fb (La (0<=C7 (C3 h i))=O)<|Fr (188:Int)<|Fr (4:Int)<|Fr (i:Int)<|Fa (by rw[f]:(address h.C (i:Int) 0).1+max (C7 (C3 h i)) 0=(C8.mk 4 (i:Int) ((address h.C (i:Int) 0).1+C7 (C3 h i))).addr) Fz;exact sF [] (fO 6)<|Fh 48 [.br Lb]<|Fh 58 [.br O]<|Ftb 15 (La ((i:Int)<(h.P.length:Int)))<|Fek 17 Z0.dv h.P (↑i) i<|Ffb 28 ((h.P.getD i M).K != 0&&(h.P.getD i M).S != h.S)<|Fc 34 (@Rj h ((i:Int)) aa oq)<|Ffb 38 ((Zh h (i:Int)).2 != 0)<|Fc 45 (@Mf h ((i:Int)) ((Zh h (i:Int)).1) aa oq oq oq aa)<|Fa ‹G5 h (i:Int) (Zh h (i:Int)).1=Lb›<|Fc 55 (@Z0e h i aa aa aa)<|Fb (La (0<=C7 (C3 h i))=O)<|Fr (188:Int)<|Fr (4:Int)<|Fr (i:Int)<|Fa (by rw[f]:(address h.C (i:Int) 0).1+max (C7 (C3 h i)) 0=(C8.mk 4 (i:Int) ((address h.C (i:Int) 0).1+C7 (C3 h i))).addr) Fz
end
def Zah(h:Heap):CP (Zn f177 0) (NX h h.P.length).st (.ext 0) (AX ⟨0,0,0⟩).st:=by exact sF [] []<|Ffb 15 (La ((h.P.length:Int)<(h.P.length:Int))) Fz
def CJ(h:Heap):C8:=match GA h with|Lf i=>pageF h i|Li=>⟨0,0,0⟩
def Z4P{h i}(e:(pageF h i).fault=0):((h.P.getD i M).K=0\/(h.P.getD i M).S=h.S)/\(Zh h (i:Int)).2=0/\Cs h (i:Int) (Zh h (i:Int)).1=0/\Eu h i (CQ h i)=0:=by unfold pageF at e;split at e;simp at e;rename_i a;split at e;simp at e;rename_i b;split at e;simp at e;rename_i c;split at e;simp at e;rename_i d;refine⟨?_,Lo.1 b,Lo.1 c,Lo.1 d⟩;by_cases q:(h.P.getD i M).K=0;exact .inl q;refine .inr (Lo.1 λf=>a ⟨q,f⟩)
def Zhp(h:Heap)(i:Nat)(g:Zz h.W)(f:Z9 h=O)(d:i<h.P.length)(e:(pageF h i).fault≠0):CP (Zn f177 0) (NX h i).st .ret (AX (pageF h i)).st:=by
 unfold pageF at e⊢;split;rename_i b;exact ZkW h i g f d b;rename_i b;have k:(h.P.getD i M).K=0\/(h.P.getD i M).S=h.S:=by(by_cases q:(h.P.getD i M).K=0;exact .inl q;exact .inr (Lo.1 λl=>b ⟨q,l⟩))
 split;rename_i a;exact Zhi h i g f d k a;rename_i a;split;rename_i c;exact Zej h i g f d k (Lo.1 a) c;rename_i c;split;rename_i j;exact ZiT h i g f d k (Lo.1 a) (Lo.1 c) j;rename_i j;rw[if_neg b,if_neg a,if_neg c,if_neg j]at e;exact absurd rfl e
def Zf8(h:Heap)(d:Zz h.W)(c:Z9 h=O)(b:GA h=Li):CP (Zl f177 0) (NX h 0).st .nrm (Tg.st ⟨tm 64 [(2,.pt 8002 0 0)],[(8002,.box 188 [nI 0,nI 0,uU 0])],64⟩):=by refine Bs (S:=λk=>(NX h k).st) h.P.length kr (λk a=>?_) (Zah h);have e:=Lw.1 b k (Lm.2 a);obtain⟨f,g,j,l⟩:=Z4P (h:=h) (i:=k) (by simpa using e);exact Z7Z h k d c a f g j l
def Zei(h:Heap) i(c:Zz h.W)(b:Z9 h=O)(g:GA h=Lf i):CP (Zl f177 0) (Tg.st ⟨tm 64 [(1,.pt 8001 0 0),(2,.pt 8002 0 0),(12,ZJ h.P),(13,nI h.P.length),(14,nI 0)],[(8002,.box 188 [nI 0,nI 0,uU 0]),(8001,.box 27 h.cells)],60⟩) .ret (Tg.st ⟨tm 64 [(2,.pt 8002 0 0)],[(8002,.box 188 [nI (pageF h i).fault,nI (pageF h i).page,uU (pageF h i).addr])],64⟩):=by obtain⟨d,a,f⟩:=Ls.1 g;have a:=Lm.1 a;refine EF (S:=λk=>(NX h k).st) i kr (λk j=>?_) (Zhp h i c b a (by simpa using d));have e:=f k j;obtain⟨l,m,n,o⟩:=Z4P (h:=h) (i:=k) (by simpa using e);exact Z7Z h k c b oq l m n o
def OC(h:Heap)(hw:Zz h.W)(b:Z9 h=O):GP 177 [h.av] O (CJ h).av []:=by
 have po:=B7 b;cases hf:GA h with
 |none =>
  have a:CJ h=⟨0,0,0⟩:=by simp only[CJ,hf]
  rw[a];exact gF [] func177 []<|Fl 13 Z0.dv h.P<|Fu (@Zf8 h aa aa aa) Fz
 |some i =>
  have a:CJ h=pageF h i:=by simp only[CJ,hf]
  rw[a];exact gF [] func177 []<|Fl 13 Z0.dv h.P<|Fu (@Zei h i aa aa aa) Fz
def Zb0(h:Heap)(hw:Zz h.W)(hp:Z9 h=Lb):GP 123 [h.av] O (C8.av ⟨1,0,0⟩) []:=by exact gF [] func123 []<|Fc 9 (@CW h)<|Ftb 10 (!Z9 h) Fz
def Zcg(h:Heap)(hw:Zz h.W)(d:Z9 h=O) i(a:GA h=Lf i):GP 123 [h.av] O (pageF h i).av []:=by
 have po:=B7 d;have b:CJ h=pageF h i:=by simp only[CJ,a]
 have c:¬ (pageF h i).fault=0:=by simpa using (Ls.1 a).1
 rw[<-b]at c⊢;exact gF [] func123 []<|Fc 9 (@CW h)<|Ffb 10 (!Z9 h)<|Fc 13 (@OC h aa aa)<|Ftb 16 (!((CJ h).fault==0&&((CJ h).page==0&&(CJ h).addr==0))) Fz
def Zb8(h:Heap)(hw:Zz h.W)(c:Z9 h=O)(b:GA h=Li)(hq:¬ (CL h).fault=0):GP 123 [h.av] O (CL h).av []:=by
 have po:=B7 c;have a:CJ h=⟨0,0,0⟩:=by simp only[CJ,b]
 have q1:(CJ h).fault=0:=by rw[a]
 have q2:(CJ h).page=0:=by rw[a]
 have q3:(CJ h).addr=0:=by rw[a]
 exact gF [] func123 []<|Fc 9 (@CW h)<|Ffb 10 (!Z9 h)<|Fc 13 (@OC h aa aa)<|Ffb 16 (!((CJ h).fault==0&&((CJ h).page==0&&(CJ h).addr==0)))<|Fc 19 (@Z11 h aa oq)<|Ftb 22 (!((CL h).fault==0&&((CL h).page==0&&(CL h).addr==0))) Fz
def NM(h:Heap)(i:Nat):Tg:=⟨tm 50 [(1,.pt 8001 0 0),(2,.pt 8002 0 0),(5,nI (BW h.P i)),(25,ZJ h.P),(26,nI h.P.length),(27,nI i)],[(8002,.box 188 [nI 0,nI 0,uU 0]),(8001,.box 27 h.cells)],60⟩
def Zan(h:Heap)(i:Nat)(c:Z9 h=O)(hi:i<h.P.length):CP (Zn f123 0) (NM h i).st .nrm (NM h (i+1)).st:=by
 have po:=B7 c;have:=Rr h.P i;by_cases a:(h.P.getD i M).K=1;by_cases b:0<(h.P.getD i M).N;have e:BW h.P (i+1)=BW h.P i+1:=by rw[BW,if_pos ⟨a,b⟩]
 rw[NM,NM,e];exact sF [] []<|Ftb 28 (La ((i:Int)<(h.P.length:Int)))<|Fek 29 Z0.dv h.P (↑i) i<|Ftb 38 ((h.P.getD i M).K==1&&La (0<(h.P.getD i M).N))<|Fw 40 ((↑(BW h.P i):Int)+1) (↑(BW h.P i+1):Int)<|Fx 41 i Fz;have e:BW h.P (i+1)=BW h.P i:=by rw[BW,if_neg (λq=>b q.2)];rfl
 rw[NM,NM,e];exact sF [] []<|Ftb 28 (La ((i:Int)<(h.P.length:Int)))<|Fek 29 Z0.dv h.P (↑i) i<|Ffb 38 ((h.P.getD i M).K==1&&La (0<(h.P.getD i M).N))<|Fx 41 i Fz;have e:BW h.P (i+1)=BW h.P i:=by rw[BW,if_neg (λq=>a q.1)];rfl
 rw[NM,NM,e];exact sF [] []<|Ftb 28 (La ((i:Int)<(h.P.length:Int)))<|Fek 29 Z0.dv h.P (↑i) i<|Ffb 38 ((h.P.getD i M).K==1&&La (0<(h.P.getD i M).N))<|Fx 41 i Fz
def ZgB(h:Heap):CP (Zn f123 0) (NM h h.P.length).st (.ext 0) (Tg.st ⟨tm 50 [(1,.pt 8001 0 0),(2,.pt 8002 0 0),(5,nI (BW h.P h.P.length))],[(8002,.box 188 [nI 0,nI 0,uU 0]),(8001,.box 27 h.cells)],64⟩):=by exact sF [] []<|Ffb 28 (La ((h.P.length:Int)<(h.P.length:Int))) Fz
def Z8d(h:Heap)(b:Z9 h=O)  := Bs (S:=λi=>(NM h i).st) h.P.length (by kernel_rfl) (λi a=>Zan h i b a) (ZgB h)
def Zac(h:Heap)(hw:Zz h.W)(f:Z9 h=O)(e:GA h=Li)(c:(CL h).fault=0)(hc:h.C.pg/4<(BW h.P h.P.length:Nat)):GP 123 [h.av] O (C8.av ⟨7,0,0⟩) []:=by
 have po:=B7 f;have cl:=Rr h.P h.P.length;have a:CJ h=⟨0,0,0⟩:=by simp only[CJ,e]
 have q1:(CJ h).fault=0:=by rw[a]
 have q2:(CJ h).page=0:=by rw[a]
 have q3:(CJ h).addr=0:=by rw[a]
 have b:CL h=⟨0,0,0⟩:=by(unfold CL at c⊢;split at c;rename_i d;rw[if_pos d];simp at c)
 have q4:(CL h).fault=0:=by rw[b]
 have q5:(CL h).page=0:=by rw[b]
 have q6:(CL h).addr=0:=by rw[b]
 exact gF [] func123 []<|Fc 9 (@CW h)<|Ffb 10 (!Z9 h)<|Fc 13 (@OC h aa aa)<|Ffb 16 (!((CJ h).fault==0&&((CJ h).page==0&&(CJ h).addr==0)))<|Fc 19 (@Z11 h aa oq)<|Ffb 22 (!((CL h).fault==0&&((CL h).page==0&&(CL h).addr==0)))<|Fl 26 Z0.dv h.P<|Fu (@Z8d h aa)<|Fg 46 (by rw[L0 oq,E6 oq oq]:Ll.wrap (h.C.pg.tdiv 4)=h.C.pg/4)<|Fa (by decide:(4:Int)≠0)<|Ftb 47 (La (h.C.pg/4<(↑(BW h.P h.P.length):Int))) Fz
def ZeN(h:Heap)(hw:Zz h.W)(f:Z9 h=O)(e:GA h=Li)(c:(CL h).fault=0)(hc:¬ h.C.pg/4<(BW h.P h.P.length:Nat)):GP 123 [h.av] O (C8.av ⟨0,0,0⟩) []:=by
 have po:=B7 f;have cl:=Rr h.P h.P.length;have a:CJ h=⟨0,0,0⟩:=by simp only[CJ,e]
 have q1:(CJ h).fault=0:=by rw[a]
 have q2:(CJ h).page=0:=by rw[a]
 have q3:(CJ h).addr=0:=by rw[a]
 have b:CL h=⟨0,0,0⟩:=by(unfold CL at c⊢;split at c;rename_i d;rw[if_pos d];simp at c)
 have q4:(CL h).fault=0:=by rw[b]
 have q5:(CL h).page=0:=by rw[b]
 have q6:(CL h).addr=0:=by rw[b]
 exact gF [] func123 []<|Fc 9 (@CW h)<|Ffb 10 (!Z9 h)<|Fc 13 (@OC h aa aa)<|Ffb 16 (!((CJ h).fault==0&&((CJ h).page==0&&(CJ h).addr==0)))<|Fc 19 (@Z11 h aa oq)<|Ffb 22 (!((CL h).fault==0&&((CL h).page==0&&(CL h).addr==0)))<|Fl 26 Z0.dv h.P<|Fu (@Z8d h aa)<|Fg 46 (by rw[L0 oq,E6 oq oq]:Ll.wrap (h.C.pg.tdiv 4)=h.C.pg/4)<|Fa (by decide:(4:Int)≠0)<|Ffb 47 (La (h.C.pg/4<(↑(BW h.P h.P.length):Int))) Fz
def ZlU(h:Heap)(c:Zz h.W):GP 123 [h.av] O (Bl h).av []:=by
 have e:=ZiN h;unfold Bl;rw[<-e];by_cases a:Z9 h=O;rw[if_pos a];cases hb:GA h with|some i=>exact Zcg h c a i hb|none =>by_cases b:(CL h).fault=0;simp only[b,ne_eq,not_true_eq_false,if_false];by_cases d:h.C.pg/4<(BW h.P h.P.length:Nat);rw[if_pos d];exact Zac h c a hb b d;rw[if_neg d];exact ZeN h c a hb b d;simp only[ne_eq,b,not_false_eq_true,if_true];exact Zb8 h c a hb b
 rw[if_neg a];exact Zb0 h c (by simpa using a)
def ZeZ(h:Heap):((Bl h).fault==0&&((Bl h).page==0&&(Bl h).addr==0))=La (Bl h=⟨0,0,0⟩):=by
 cases Bl h with|mk a b c=>by_cases d:a=0<;>by_cases e:b=0<;>by_cases f:c=0<;>simp[d,e,f]
def Z05(h:Heap)(hw:Zz h.W):GP 70 [h.av] O (bL (La (Bl h=⟨0,0,0⟩))) []:=by have a:=ZeZ h;exact gF [] func70 [O]<|Fc 4 (@ZlU h aa)<|Fa (a:((Bl h).fault==0&&((Bl h).page==0&&(Bl h).addr==0))=La (Bl h=C8.mk 0 0 0)) Fz
def GK(a:List Int)(r:Int):Bool:=(r != 0)&&!decide (r∈a)
def Ol(a:List Int):AV:=.fn 73 [.rp [.sl 1 (a.map wD)] 0]
def Z8b(a:List Int) r(ha:a.length<=1048576)(hs:a.Pairwise (· < ·)):GP 73 [uU r,.rp [.sl 1 (a.map wD)] 0] O (bL (GK a r)) []:=by
 by_cases b:r=0;have e:GK a r=Lb:=by simp[GK,b]
 rw[e];exact gF [] func73 (fO 2)<|Fc 9 (@bsearch a r aa aa)<|Fa ‹(r != 0&&!decide (r∈a))=Lb› Fz;by_cases c:r∈a;have e:GK a r=Lb:=by simp[GK,c]
 rw[e];exact gF [] func73 (fO 2)<|Fc 9 (@bsearch a r aa aa)<|Fa ‹(r != 0&&!decide (r∈a))=Lb› Fz;have e:GK a r=O:=by simp[GK,b,c]
 rw[e];exact gF [] func73 (fO 2)<|Fc 9 (@bsearch a r aa aa)<|Fa ‹(r != 0&&!decide (r∈a))=O› Fz
def Ho(a l:List Int):Nat:=(l.takeWhile λr=>!GK a r).length
def OK{a l}{m:Nat}(h:m<Ho a l):m<l.length/\GK a (l.getD m M)=Lb:=by obtain⟨b,c⟩:=AK _ _ _ h;refine⟨b, ?_⟩;rw[Lj,Lp b];simpa using c
def Z5e{a l:List Int}(h:Ho a l<l.length):GK a (l.getD (Ho a l) M)=O:=by
 have b:=Ar (λr=>!GK a r) l h;have c:l.getD (Ho a l) M=l[(l.takeWhile λr=>!GK a r).length]:=by(rw[Lj,Lp h];rfl)
 rw[c];simpa using b
def IH(a l:List Int):Int:=if Ho a l<l.length then Ho a l else -1
def RN(a l:List Int)(i:Nat):Tg:=⟨tm 19 [(0,Z2 l),(1,Ol a),(4,nI 0),(7,nI l.length),(8,nI i)],[],60⟩
section
variable(a l:List Int)(i:Nat)(hl:l.length<=1048576)(ha:a.length<=1048576)(hs:a.Pairwise (· < ·))(hi:i<l.length)
include hl ha hs hi
theorem Z4N(e:GK a (l.getD i M)=Lb):CP (Zn f128 0) (RN a l i).st .nrm (RN a l (i+1)).st:=by unfold RN Ol;exact sF [] []<|Fh 16 [.call O (bL (GK a (l.getD i M))) [],.br Lb]<|Ftb 9 (La ((i:Int)<(l.length:Int)))<|Fek 14 wD l (↑i) i<|Fa (@Z8b a (l.getD i M) aa aa)<|Fa ‹GK a (l.getD i M)=Lb›<|Fx 18 i Fz
theorem Zkx(e:GK a (l.getD i M)=O):CP (Zn f128 0) (RN a l i).st .ret (Tg.st ⟨tm 19 [(4,nI i)],[],60⟩):=by unfold RN Ol;exact sF [] []<|Fh 16 [.call O (bL (GK a (l.getD i M))) [],.br O]<|Ftb 9 (La ((i:Int)<(l.length:Int)))<|Fek 14 wD l (↑i) i<|Fa (@Z8b a (l.getD i M) aa aa)<|Fa ‹GK a (l.getD i M)=O› Fz
end
def Zk4 a l:CP (Zn f128 0) (RN a l l.length).st (.ext 0) (Tg.st ⟨tm 19 [(4,nI 0)],[],60⟩):=by unfold RN Ol;exact sF [] []<|Ffb 9 (La ((l.length:Int)<(l.length:Int))) Fz
def ZcY(a l:List Int)(hl:l.length<=1048576)(b:a.length<=1048576)(hs:a.Pairwise (· < ·))(h:¬ Ho a l<l.length)  := Bs (S:=λj=>(RN a l j).st) l.length (by kernel_rfl) (λj c=>Z4N a l j hl b hs c (OK (by omega)).2) (Zk4 a l)
def ZdI(a l:List Int)(hl:l.length<=1048576)(b:a.length<=1048576)(hs:a.Pairwise (· < ·))(h:Ho a l<l.length)  := EF (S:=λj=>(RN a l j).st) (Ho a l) (by kernel_rfl) (λj c=>Z4N a l j hl b hs (by omega) (OK c).2) (Zkx a l (Ho a l) hl b hs h (Z5e h))
def Zhz(a l:List Int)(hl:l.length<=1048576)(ha:a.length<=1048576)(hs:a.Pairwise (· < ·)):GP 128 [Z2 l,.fn 73 [.rp [.sl 1 (a.map wD)] 0]] O (nI (IH a l)) []:=by by_cases h:Ho a l<l.length;have b:IH a l=Ho a l:=if_pos h;rw[b];exact gF [] func128 []<|Fl 7 wD l<|Fu (@ZdI a l aa aa aa aa) Fz;have b:IH a l=-1:=if_neg h;rw[b];exact gF [] func128 []<|Fl 7 wD l<|Fu (@ZcY a l aa aa aa aa) Fz
def Zbp(a l:List Int)(hl:l.length<=1048576)(ha:a.length<=1048576)(hs:a.Pairwise (· < ·)):GP 72 [Z2 l,.fn 73 [.rp [.sl 1 (a.map wD)] 0]] O (bL (La (0<=IH a l))) []:=by exact gF [] func72 []<|Fc 7 (@Zhz a l aa aa aa) Fz
def Zg4(h:Heap) refs(hw:Zz h.W)(hg:¬ Bl h=⟨0,0,0⟩):GP 31 [h.av,Z2 refs] O (bL Lb) []:=by exact gF [] func31 []<|Fc 8 (@Z05 h aa)<|Ftb 9 (!decide (Bl h=C8.mk 0 0 0)) Fz
def Zdr(h:Heap) refs(hw:Zz h.W)(hg:Bl h=⟨0,0,0⟩):Sq prog 4 (Hs f31) (Tg.st ⟨tm 19 [(0,h.av),(1,Z2 refs)],[],1⟩) (Tg.st ⟨tm 19 [(1,Z2 refs),(5,.pt 24005 0 0)],[(24005,.box 24 [Z2 (Zt h).1])],20⟩):=by refine Av [((8:Nat),[Hint.call O (bL (La (Bl h=C8.mk (0:Int) (0:Int) (0:Int)))) []]),((9:Nat),[Hint.br Lb]),((12:Nat),[Hint.call O (AV.tu [Z2 (Zt h).1,nI (Zt h).2]) []])] [] [] (φ:=GP 70 [h.av] O (bL (La (Bl h=C8.mk (0:Int) (0:Int) (0:Int)))) []/\(!decide (Bl h=C8.mk (0:Int) (0:Int) (0:Int)))=Lb/\Lb=Lb/\GP 71 [h.av] O (AV.tu [Z2 (Zt h).1,nI (Zt h).2]) []) ?_ kr kr kr kr;exact⟨(@Z05 (h) aa),(by(simp only[bs];omega)),rfl,(@Z06 (h) aa)⟩
def Zky(h:Heap)(refs:List Int):((Ln refs.length).find? (HF refs (Zt h).1)).isNone = !decide (0<=IH (Zt h).1 refs):=by
 have e:∀i,HF refs (Zt h).1 i=GK (Zt h).1 (refs.getD i M):=by(intro i;unfold HF GK;generalize refs.getD i M=r;by_cases f:r=0<;>by_cases g:r∈(Zt h).1<;>simp[f,g])
 by_cases a:Ho (Zt h).1 refs<refs.length;have c:IH (Zt h).1 refs=Ho (Zt h).1 refs:=if_pos a;have d:(Ln refs.length).find? (HF refs (Zt h).1)=Lf (Ho (Zt h).1 refs):=by(rw[Ls];refine⟨by rw[e];exact Z5e a,Lm.2 a,λj b=>?_⟩;rw[e,(OK b).2];rfl)
 rw[c,d];simp;have c:IH (Zt h).1 refs=-1:=if_neg a;have d:(Ln refs.length).find? (HF refs (Zt h).1)=Li:=by(rw[Lw];intro j b;have b:=Lm.1 b;rw[e,(OK (l:=refs) (m:=j) oq).2];simp)
 rw[c,d];rfl
end Go.Proofs.YtkmnngahjnkdmaaGreat
namespace Go.Proofs.YtkmnngahjnkdmaaGreat
open Go.Sx Go.RowKit
def Zb3(h:Heap)(refs:List Int)(hw:Zz h.W)(hl:refs.length<=1048576)(l:Bl h=⟨0,0,0⟩):GP 31 [h.av,Z2 refs] O (bL (!decide (0<=IH (Zt h).1 refs))) []:=by
 intro f u vs w r d;rw[<-callsIn_wide (n:=10)];refine callsIn_of_wp func31 (c:=Hs f31) kr trivial ?_ rfl;have o:vs.size=2:=r;have S0:Sx.Sys EU u f (tm 19 [(0,h.av),(1,Z2 refs)]) (Bv []) 1 {tmps:=vs++LR (Tryz.f31.ntmps-vs.size) undef,defers:=[]} f:=by(refine⟨_,u,Sx.Inv.empty w (Ly 1),⟨by rw[o];simp[o];kernel_rfl,λk y v s i=>?_,rfl⟩⟩;rw[show tm 19 [(0,h.av),(1,Z2 refs)]=[h.av,Z2 refs]++Ld 17 .any from by kernel_rfl,L3]at s;rw[LQ]at i;split at s;rename_i hk;rw[if_pos (by rw[r];exact hk)]at i;exact d k y v s i;have:=Xf s;rw[(Xg.1 this).2];exact .any _)
 generalize hR:(λe w'=>∃v,e=Ending.returned v/\RF f u O (bL (!decide (0<=IH (Zt h).1 refs))) [] v w')=R;generalize hQ:bodyPost prog f31 R=Q;refine Zdr h refs hw l 10 Q _ _ _ _ _ S0 ?_;rintro a1 w1 ⟨ρ1,a,j,T1⟩;obtain⟨v5,t5,r5⟩:=T1.at (t:=5) (x:=.pt 24005 0 0) rfl;obtain⟨β,m,n⟩:=j.blk 24005 _ rfl;have z:Zk (λ_=>Li) w1 (λg=>a g\/β.g=Lf g) (.rp [.sl 1 ((Zt h).1.map wD)] 0) v5:=TG m n r5 (λ_ h=>.inl h) (λ_ h=>.inr h);have er:rest prog 10 4 (Hs f31) Q a1 w1=(Code.region 4 (Bq f31 4) Lb).wpIn Fence.wide 10 prog (Exit.then (Code.ret.wpIn Fence.wide 10 prog Q) Q) a1 w1:=by kernel_rfl
 rw[er];refine wpIn_region ?_;rw[show Ln (Bq f31 4).size=[0,1,2,3,4]from by kernel_rfl];have T2:Ct [] (λ_=>Li) w1 (λg=>a g\/β.g=Lf g) (tm 19 [(1,Z2 refs),(5,.rp [.sl 1 ((Zt h).1.map wD)] 0)]) a1:=by(have A1:Ct [] ρ1 w1 (λg=>a g\/β.g=Lf g) _ a1:=T1.mono (Sx.Ext.refl _ _) (λ_ h=>.inl h) (λ_ _ h=>h) j.bnd;have A2:=(A1.reSet 5 .any (λv _=>.any v)).pure kr;exact A2.reSet 5 (.rp [.sl 1 ((Zt h).1.map wD)] 0) (λv i=>by rw[t5]at i;cases i;exact z))
 have S2:Sx.Sys EU (λg=>a g\/β.g=Lf g) w1 (tm 19 [(1,Z2 refs),(5,.rp [.sl 1 ((Zt h).1.map wD)] 0)]) (Bv []) 20 a1 w1:=by(refine⟨_,_,Sx.Inv.empty ?_ dd,T2⟩;rintro g (l|l);exact j.imb g l;exact j.bnd _ _ g m l)
 generalize hb:La (0<=IH (Zt h).1 refs)=b at hR;have hc:=Zbp (Zt h).1 refs hl (by have:=AI h;omega) (Z4z h);rw[hb]at hc;refine P6 (ro:=Li) (hints:=[(17,[Hint.call O (bL b) []])]) (out:=⟨((((tm 19 [(1,Z2 refs),(5,.rp [.sl 1 ((Zt h).1.map wD)] 0)]).set 15 (Z2 refs)).set 16 (.fn 73 [.rp [.sl 1 ((Zt h).1.map wD)] 0])).set 17 (bL b)).set 18 (bL (!b)) |>.set 4 (bL (!b)),Bv [],[GP 72 [Z2 refs,.fn 73 [.rp [.sl 1 ((Zt h).1.map wD)] 0]] O (bL b) []],[]⟩) kr S2 hc (λp hp=>by simp at hp) ?_;rintro a3 w3 ⟨ρ3,a0,I3,T3⟩;refine wpIn_ret ?_;show Q .ret a3 w3;rw[<-hQ];refine bodyPost_ret (results_tmp rfl _ _ _) T3.defers ?_;rw[<-hR];have r4:a3.tmps.getD 4 undef=.bool (!b):=BV (Ed T3 (.tmp 4));rw[r4];exact⟨_,rfl,S8 j.kept.no I3.kept (λ_ h=>(Sx.OwA.no h).elim),λ_=>Li,λ_=>False,λ_ q=>q.elim,λ_ q=>q.elim,λ_ _ _ q=>(by cases q),λ_ _ _ _ _ q=>(by cases q),λ_ _ q=>(by cases q),λk B q=>by simp at q,.d (.sc _ rfl)⟩
def Sp(h:Heap)(refs:List Int)(b:Zz h.W)(hl:refs.length<=1048576):GP 31 [h.av,Z2 refs] O (bL (ZB h refs)) []:=by
 by_cases a:Bl h=⟨0,0,0⟩;have e:ZB h refs = !decide (0<=IH (Zt h).1 refs):=by(unfold ZB;rw[Zky,a];simp)
 rw[e];exact Zb3 h refs b hl a;have e:ZB h refs=Lb:=by simp[ZB,a]
 rw[e];exact Zg4 h refs b a
end Go.Proofs.YtkmnngahjnkdmaaGreat
namespace Go.Proofs.YtkmnngahjnkdmaaGreat
open Go.Sx
def Z7a{l:List Z0}{i k:Nat}{p q:Z0}(hk:1<=k)(h:i+k<=l.length):C6 l i (p::Ld (k-1) q)=ZF l i k p q:=by
 obtain⟨m,rfl⟩:∃m,k=m+1:=⟨k-1,by omega⟩;have a:(Lg i l).length=i:=by simp;omega
 rw[ZF,wr,C6,List.take_of_length_le (l:=Ld (m+1) q) pq,LN,LN,List.set_append,if_neg oq,a,Nat.sub_self];simp[List.replicate_succ]
def Z4I{l:List Z0}:∀{i:Nat},(∀j,j<i->(l.getD j M).K=0)->EP l i=0
 |0,_=>rfl
 |i+1,h=>by
  have a:E9 l i=l.getD i M:=by rw[Z1H];simp
  rw[EP,Z4I (λj hj=>h j oq),a,if_pos (h i oq)]
def Zj8{l:List Z0}{i k:Nat}(h:i+k<=l.length)(a:HJ l i k=O):Bw ((l.drop i).take k)=0:=by refine Z4I λj b=>?_;simp only[Lr,Lt]at b;have:=Al.1 a j oq;rw[Lj]at this⊢;rwa [LD,if_pos oq,LC]
def O5(l:List Z0)(hl:l.length<=1048576)(hne:l≠[]):GP 117 [ZJ l] O (.ow 0) [.arr 79 4 (l.map Z0.dv)]:=by exact gF [24007] func117 []<|Fa (D5 hne:Lc Z0.dv l≠[])<|FA 5 7 Z0.dv l<|Fa (IP _:Ca (Lc Z0.dv l)) Fz
def Z8Q(ps l:List Z0)(i:Int)(hl:ps.length<=1048576)(hll:l.length<=1048576)(hi:0<=i)(h1:i+l.length<=ps.length)(hf:HJ ps i.toNat l.length=O)(hn:0<ps.length):GP 174 [ZJ ps,nI i,ZJ l] O (.tu [.ow 0,nI 0]) [.arr 79 4 ((C6 ps i.toNat l).map Z0.dv)]:=by
 have hne:ps≠[]:=Sa hn;have e1:Bw (Lg ((i+l.length).toNat-i.toNat) (Lh i.toNat ps))=0:=by(rw[show(i+l.length).toNat-i.toNat=l.length from by omega];exact Zj8 oq hf)
 have hs:Cc (Lc Z0.dv ps) i.toNat (Lc Z0.dv l)=Lc Z0.dv (C6 ps i.toNat l):=by simp[Cc,C6]
 exact gF [33030] func174 []<|Fh 26 [.els (Lc Z0.dv (Lg ((i+(l.length:Int)).toNat-i.toNat) (Lh i.toNat ps)))]<|Fh 35 [.els (Lc Z0.dv (Lg i.toNat ps++l++Lh (i.toNat+l.length) ps))]<|FlG 14 (!decide (i<0)) Z0.dv ps<|FlG 16 (!decide (i<0)) Z0.dv l<|FiG 17 (!decide (i<0)) ((ps.length:Int)-(l.length:Int))<|Ffb 19 (La (i<0)||La ((ps.length:Int)-(l.length:Int)<i))<|Fl 24 Z0.dv l<|Fi 25 (i+(l.length:Int))<|Fa (by(simp only[Lq];omega):0<=i/\i<=i+(l.length:Int)/\i+(l.length:Int)<=(↑(Lc Z0.dv ps).length:Int))<|Fa (by simp[e1,C6,LG,LF,Xb,Lv,wD,iD]:Lg ((i+(l.length:Int)).toNat-i.toNat) (Lh i.toNat (Lc Z0.dv ps))=Lc Z0.dv (Lg ((i+(l.length:Int)).toNat-i.toNat) (Lh i.toNat ps)))<|Fc 27 (@SJ (Lg ((i+(l.length:Int)).toNat-i.toNat) (Lh i.toNat ps)) (by(simp[e1,C6, *];omega)))<|Ffb 28 (La (0<(↑(Bw (Lg ((i+(l.length:Int)).toNat-i.toNat) (Lh i.toNat ps))):Int)))<|Fc 30 (@O5 ps aa aa)<|Fa (by(simp only[Lq];omega):0<=i/\i<=(↑(Lc Z0.dv ps).length:Int))<|Fa (by(simp only[Lq];omega):(Lc Z0.dv l).length<=(↑(Lc Z0.dv ps).length:Int).toNat-i.toNat)<|Fa (hs:Cc (Lc Z0.dv ps) i.toNat (Lc Z0.dv l)=Lc Z0.dv (Lg i.toNat ps++l++Lh (i.toNat+l.length) ps))<|Fa (IP _:Ca (Lc Z0.dv (Lg i.toNat ps++l++Lh (i.toNat+l.length) ps))) Fz
def Zdi{l:List Z0}{i:Nat}{p q:Z0}(h:i+1<=l.length):C6 l i [p]=ZF l i 1 p q:=by have:=Z7a (l:=l) (i:=i) (k:=1) (p:=p) (q:=q) (Ly _) h;simpa using this
def Z2D(l:List Z0)(i sp:Int)(hl:l.length<=1048576)(hs:0<=sp/\sp<=1)(hi:0<=i/\i+1<=l.length)(hf:HJ l i.toNat 1=O):GP 118 [ZJ l,nI i,nI sp] O (.tu [.ow 0,nI 0]) [.arr 79 4 ((ZF l i.toNat 1 ⟨1,sp,0,0⟩ ⟨0,0,0,0⟩).map Z0.dv)]:=by
 have e:=Zdi (l:=l) (i:=i.toNat) (p:=⟨1,sp,0,0⟩) (q:=⟨0,0,0,0⟩) oq;rw[<-e];have e2:HJ l i.toNat ([⟨1,sp,0,0⟩]:List Z0).length=O:=hf;have e3:GG ⟨1,sp,0,0⟩=O:=by simp[GG];omega
 exact gF [33018] func118 []<|Fc 12 (@Z0b (Z0.mk 1 sp 0 0))<|Ffb 13 (!GG (Z0.mk 1 sp 0 0))<|Fs 17 (Lc Z0.dv [Z0.mk 1 sp 0 0])<|Fc 18 (@Z8Q l ([Z0.mk 1 sp 0 0]) i aa (by simp[*]) oq (by simp[*]) aa oq)<|Fa (IP _:Ca (Lc Z0.dv (C6 l i.toNat [Z0.mk 1 sp 0 0]))) Fz
def Ph(l:List Z0)(i sp n k:Int)(j:Nat):Tg:=⟨tm 45 [(1,ZJ l),(2,nI i),(3,nI sp),(10,.d (.sl 0 [])),(11,nI 0),(13,nI k),(14,.ow 40029)],[(40029,.arr 79 4 (((⟨2,sp,n,0⟩:Z0)::Ld j ⟨3,sp,0,0⟩).map Z0.dv))],60⟩
def ZlO l(i sp n k:Int)(j:Nat)(hj:(j:Int)+1<k)(hk:k<=1000):CP (Zn f119 0) (Ph l i sp n k j).st .nrm (Ph l i sp n k (j+1)).st:=by
 have e:((⟨2,sp,n,0⟩:Z0)::Ld (j+1) ⟨3,sp,0,0⟩)=(⟨2,sp,n,0⟩::Ld j ⟨3,sp,0,0⟩)++[⟨3,sp,0,0⟩]:=by rw[List.replicate_succ',List.cons_append]
 let a:=Z0.mk 3 sp 0 0;exact sF [(488038,40029)] (fO 7)<|Fh 38 [.els (Lc Z0.dv (Z0.mk 2 sp n 0::Ld j a++[Z0.mk 3 sp 0 0]))]<|Fg 31 (by simp only[Lq,L6,Lr,Lt,L9,Lu,L8,L7]:(↑(Lc Z0.dv (Z0.mk 2 sp n 0::Ld j a)).length:Int)=(↑(j+1):Int))<|Ftb 33 (La ((↑(j+1):Int)<k))<|Fs 37 (Lc Z0.dv [Z0.mk 3 sp 0 0])<|Fa (by(simp[*];omega):(Lc Z0.dv (Z0.mk 2 sp n 0::Ld j a)).length+(Lc Z0.dv [Z0.mk 3 sp 0 0]).length<=2^30)<|Fa (ms:Lc Z0.dv (Z0.mk 2 sp n 0::Ld j a)++Lc Z0.dv [Z0.mk 3 sp 0 0]=Lc Z0.dv (Z0.mk 2 sp n 0::Ld j a++[Z0.mk 3 sp 0 0]))<|Fr (79:Int)<|Fa (by refine congrArg _ ?_;rw[e]:Lc Z0.dv (Z0.mk 2 sp n 0::Ld j a++[Z0.mk 3 sp 0 0])=Lc Z0.dv (Z0.mk 2 sp n 0::Ld (j+1) a)) Fz
def ZjI l(i sp n k:Int)(h1:1<=k):CP (Zn f119 0) (Ph l i sp n k (k.toNat-1)).st (.ext 0) (Tg.st ⟨tm 45 [(1,ZJ l),(2,nI i),(10,.d (.sl 0 [])),(11,nI 0),(14,.ow 40029)],[(40029,.arr 79 4 (((⟨2,sp,n,0⟩:Z0)::Ld (k.toNat-1) ⟨3,sp,0,0⟩).map Z0.dv))],60⟩):=by exact sF [] []<|Fg 31 (by simp only[Lq,L6,Lr,Lt,L9,Lu,L8,L7]:(↑(Lc Z0.dv (Z0.mk 2 sp n 0::Ld (k.toNat-1) (Z0.mk 3 sp 0 0))).length:Int)=(↑(k.toNat-1+1):Int))<|Ffb 33 (La ((↑(k.toNat-1+1):Int)<k)) Fz
def ZdX(l:List Z0)(i sp n k:Int)(a:1<=k)(b:k<=1000)  := Bs (S:=λj=>(Ph l i sp n k j).st) (k.toNat-1) (by kernel_rfl) (λj hj=>ZlO l i sp n k j (by omega) b) (ZjI l i sp n k a)
def Zgn c(l:List Z0)(i sp n:Int)(hl:l.length<=1048576)(hs:0<=sp/\sp<=1)(hn:1<=need c n)(hi:0<=i/\i+need c n<=l.length)(hf:HJ l i.toNat (need c n).toNat=O):GP 119 [c.av,ZJ l,nI i,nI sp,nI n] O (.tu [.ow 0,nI 0]) [.arr 79 4 ((ZF l i.toNat (need c n).toNat ⟨2,sp,n,0⟩ ⟨3,sp,0,0⟩).map Z0.dv)]:=by
 have e:=Z7a (l:=l) (i:=i.toNat) (k:=(need c n).toNat) (p:=⟨2,sp,n,0⟩) (q:=⟨3,sp,0,0⟩) oq oq;rw[<-e];have hr:=N3 c n;have e3:GG ⟨2,sp,n,0⟩=O:=by simp[GG];omega
 exact gF [481042] func119 []<|Fc 20 (@Hc c n)<|FcG 25 (!decide (need c n<1)) (λa=>by(try simp only[bs]at a);exact@Z0b (Z0.mk 2 sp n 0))<|Ff 27 (by simp[*]:(La (need c n<1)||!GG (Z0.mk 2 sp n 0))=Lb)<|Fs 29 (Lc Z0.dv [Z0.mk 2 sp n 0])<|Fu (@ZdX l i sp n (need c n) aa oq)<|Fc 42 (@Z8Q l (Z0.mk 2 sp n 0::Ld ((need c n).toNat-1) (Z0.mk 3 sp 0 0)) i aa (by(simp[*];omega)) oq (by(simp[*];omega)) (by grind[]) oq)<|Fa (IP _:Ca (Lc Z0.dv (C6 l i.toNat (Z0.mk 2 sp n 0::Ld ((need c n).toNat-1) (Z0.mk 3 sp 0 0))))) Fz
def Zee c(hd:Zo):(ZV hd&&hd.K != 0&&La (0<=need c (Z1 hd)))=BB c hd:=by
 have hr:=N3 c (Z1 hd);have e:La (0<=need c (Z1 hd))=La (need c (Z1 hd)≠-1):=decide_eq_decide.2 oq;have a:(hd.K != 0)=La (hd.K≠0):=by rw[Bool.eq_iff_iff];simp
 rw[BB,e,a]
def IQ(c:ZU)(hd:Zo)(hm:0<=hd.map/\hd.map<=4294967295):GP 53 [c.av,hd.av] O (bL (BB c hd)) []:=by refine Zb [((6:Nat),[Hint.call O (bL (ZV hd)) []]),((15:Nat),[Hint.call O (nI (Z1 hd)) []]),((16:Nat),[Hint.call O (nI (need c (Z1 hd))) []])] [] [] dd func53 [Lb,Lb,Lb,Lb,Lb,Lb,Lb,Lb,O] (φ:=GP 104 [hd.av] O (bL (ZV hd)) []/\((ZV hd&&hd.K != (0:Int))=O->GP 48 [hd.av] O (nI (Z1 hd)) [])/\((ZV hd&&hd.K != (0:Int))=O->GP 50 [c.av,nI (Z1 hd)] O (nI (need c (Z1 hd))) [])/\(ZV hd&&hd.K != (0:Int)&&La ((0:Int)<=need c (Z1 hd)))=BB c hd) ?_ kr kr;exact⟨(@RV (hd) aa),(λa=>by(try simp only[bs]at a);exact@CK (hd) (by(try simp only[bs]at a);assumption)),(λa=>by(try simp only[bs]at a);exact@Hc (c) (Z1 hd)),(by exact Zee _ _)⟩
def ZcV(h:Heap)(n:Int)(b:Z9 h=O)(hn:1<=n/\n<=256)(hk:¬ 0<need h.C n)(c:GH h n):GP 116 [h.av,nI n] Lb (.ic 112 (.ag [nI h.B,nI (h.P.getD h.B.toNat M).U])) []:=by obtain⟨g,o2,o3,o4,o5,o6,o7,o8,o9⟩:=B7 b;have hb:=(Hl.1 b).2.2.2.2.1;have f:=λd=>Ew b (j:=h.B.toNat) d;have e:=Sz g;unfold GH at c;let a:=h.P.getD h.B.toNat M;exact gF [] func116 []<|Fc 13 (@SJ h.P oq)<|Fc 16 (@IG h.C)<|Fc 20 (@Hc h.C n)<|Ffb 22 (La (0<need h.C n))<|Ftb 46 (La (0<=h.B)&&La ((↑(Bw h.P):Int)<=ZY h.C))<|Fe 51 Z0.dv h.P h.B<|FiG 65 (a.S==h.S) (h.C.pw-a.U)<|Ftb 67 (a.S==h.S&&La (n<=h.C.pw-a.U)) Fz
def Zbl(h:Heap)(n:Int)(e:Z9 h=O)(hn:1<=n/\n<=256)(hk:¬ 0<need h.C n)(g:¬ GH h n)(hg:0<=first h.P 1/\(Bw h.P:Int)<ZY h.C):GP 116 [h.av,nI n] Lb (.ic 178 (.ag [nI (first h.P 1)])) []:=by obtain⟨m,o2,o3,o4,o5,o6,o7,o8,o9⟩:=B7 e;have hb:=(Hl.1 e).2.2.2.2.1;have l:=λi=>Ew e (j:=h.B.toNat) i;have k:=Sz m;unfold GH at g;have f {h_ c_ p_} (o:Fq h_ c_ p_):=Fc 13 (@SJ h.P oq)<|Fc 16 (@IG h.C)<|Fc 20 (@Hc h.C n)<|Ffb 22 (La (0<need h.C n)) o;rcases bb (La (0<=h.B)&&La ((↑(Bw h.P):Int)<=ZY h.C))with hc0|hc0<;>have a:=hc0<;>simp only[bs]at a;obtain⟨c,d⟩:=a;let b:=h.P.getD h.B.toNat M;exact gF [] func116 [] (f (Ft 46 hc0<|Fe 51 Z0.dv h.P h.B<|FiG 65 (b.S==h.S) (h.C.pw-b.U)<|Ffb 67 (b.S==h.S&&La (n<=h.C.pw-b.U))<|Fc 76 (@NS h.P (1) oq)<|Ftb 83 (La (0<=first h.P 1)&&La ((↑(Bw h.P):Int)<ZY h.C)) Fz));exact gF [] func116 [] (f (Ff 46 hc0<|Fc 76 (@NS h.P (1) oq)<|Ftb 83 (La (0<=first h.P 1)&&La ((↑(Bw h.P):Int)<ZY h.C)) Fz))
def Zce(h:Heap)(n:Int)(e:Z9 h=O)(hn:1<=n/\n<=256)(hk:¬ 0<need h.C n)(g:¬ GH h n)(hg:¬ (0<=first h.P 1/\(Bw h.P:Int)<ZY h.C)):GP 116 [h.av,nI n] Lb (.d (.sc .nilIface)) []:=by obtain⟨m,o2,o3,o4,o5,o6,o7,o8,o9⟩:=B7 e;have hb:=(Hl.1 e).2.2.2.2.1;have l:=λi=>Ew e (j:=h.B.toNat) i;have k:=Sz m;unfold GH at g;have f {h_ c_ p_} (o:Fq h_ c_ p_):=Fc 13 (@SJ h.P oq)<|Fc 16 (@IG h.C)<|Fc 20 (@Hc h.C n)<|Ffb 22 (La (0<need h.C n)) o;rcases bb (La (0<=h.B)&&La ((↑(Bw h.P):Int)<=ZY h.C))with hc0|hc0<;>have a:=hc0<;>simp only[bs]at a;obtain⟨c,d⟩:=a;let b:=h.P.getD h.B.toNat M;exact gF [] func116 [] (f (Ft 46 hc0<|Fe 51 Z0.dv h.P h.B<|FiG 65 (b.S==h.S) (h.C.pw-b.U)<|Ffb 67 (b.S==h.S&&La (n<=h.C.pw-b.U))<|Fc 76 (@NS h.P (1) oq)<|Ffb 83 (La (0<=first h.P 1)&&La ((↑(Bw h.P):Int)<ZY h.C)) Fz));exact gF [] func116 [] (f (Ff 46 hc0<|Fc 76 (@NS h.P (1) oq)<|Ffb 83 (La (0<=first h.P 1)&&La ((↑(Bw h.P):Int)<ZY h.C)) Fz))
def ZfD(h:Heap) n(c:Z9 h=O)(hk:0<need h.C n)(hg:0<=first h.P (need h.C n)/\Bw h.P+need h.C n<=ZY h.C):GP 116 [h.av,nI n] Lb (.ic 182 (.ag [nI (first h.P (need h.C n))])) []:=by obtain⟨d,o2,o3,o4,o5,o6,o7,o8,o9⟩:=B7 c;have b:=N3 h.C n;have a:=Sz d;exact gF [] func116 []<|Fc 13 (@SJ h.P oq)<|Fc 16 (@IG h.C)<|Fc 20 (@Hc h.C n)<|Ftb 22 (La (0<need h.C n))<|Fc 26 (@NS h.P (need h.C n) oq)<|FiG 33 (La (0<=first h.P (need h.C n))) (ZY h.C-need h.C n)<|Ftb 35 (La (0<=first h.P (need h.C n))&&La ((↑(Bw h.P):Int)<=ZY h.C-need h.C n)) Fz
def ZjF(h:Heap) n(c:Z9 h=O)(hk:0<need h.C n)(hg:¬ (0<=first h.P (need h.C n)/\Bw h.P+need h.C n<=ZY h.C)):GP 116 [h.av,nI n] Lb (.d (.sc .nilIface)) []:=by obtain⟨d,o2,o3,o4,o5,o6,o7,o8,o9⟩:=B7 c;have b:=N3 h.C n;have a:=Sz d;exact gF [] func116 []<|Fc 13 (@SJ h.P oq)<|Fc 16 (@IG h.C)<|Fc 20 (@Hc h.C n)<|Ftb 22 (La (0<need h.C n))<|Fc 26 (@NS h.P (need h.C n) oq)<|FiG 33 (La (0<=first h.P (need h.C n))) (ZY h.C-need h.C n)<|Ffb 35 (La (0<=first h.P (need h.C n))&&La ((↑(Bw h.P):Int)<=ZY h.C-need h.C n)) Fz
def Br(h:Heap)(n:Int):Heap×Int×Bool:=if 0<need h.C n then BL h n (need h.C n)else Bo h n
def BC(h:Heap)(n:Int):Int:=if 0<need h.C n then first h.P (need h.C n)else if GH h n then h.B else first h.P 1
def BD(h:Heap)(n:Int):Int:=if 0<need h.C n then 0 else if GH h n then(h.P.getD h.B.toNat M).U else 0
def Zh7(h:Heap)(n:Int)(c:Z9 h=O)(hn:1<=n/\n<=256)(hk:¬ 0<need h.C n)(d:GH h n):GP 67 [h.av,nI n] Lb (.tu [Heap.av ⟨h.C,h.W,Cw h.P h.B.toNat n,h.S,h.B⟩,.ag [nI h.B,nI (h.P.getD h.B.toNat M).U],nI 0]) []:=by have po:=B7 c;have hb:=(Hl.1 c).2.2.2.2.1;have b:=d;unfold GH at b;have e:h.P≠[]:=Sa oq;have f:=Ew c (j:=h.B.toNat) oq;let a:=h.P.getD h.B.toNat M;exact gF [] func67 []<|Fc 17 (@ZcV h n aa aa aa aa)<|Fc 26 (@O5 h.P oq aa)<|Fmq 34 Z0.dv h.P h.B<|Fi 36 (a.U+n)<|Fm0q Z0.dv h.P h.B<|FS 10038 Z0.dv h.P h.B.toNat (Z0.mk a.K a.S (a.U+n) a.N) (a.dv) Fz
def Zfz(h:Heap)(n:Int)(hp:Z9 h=O)(hn:1<=n/\n<=256)(hk:¬ 0<need h.C n)(hf:¬ GH h n)(hg:0<=first h.P 1/\(Bw h.P:Int)<ZY h.C):GP 67 [h.av,nI n] Lb (.tu [Heap.av ⟨h.C,h.W,Cw (Ib h) (first h.P 1).toNat n,h.S,first h.P 1⟩,.ag [nI (first h.P 1),nI 0],nI 0]) []:=by
 have po:=B7 hp;obtain⟨q1,q2,q3,q4⟩:=Nm (h:=h) po.2.2.2.2.2.2.2.2 hg.1;obtain⟨r1,r2,r3⟩:=HU hg.1;have r4:HJ h.P (first h.P 1).toNat 1=O:=r3;rw[q1]at q2 q4⊢;have q6:=congrArg Z0.U q4;simp only at q6;exact gF [] func67 [O] (Fc 17 (@Zbl h n aa aa aa aa aa) (Fc 54 (@Z2D h.P (first h.P 1) h.S oq oq oq aa) (Fm0q Z0.dv (ZF h.P (first h.P 1).toNat 1 (Z0.mk 1 h.S 0 0) (Z0.mk 0 0 0 0)) (first h.P 1) (FS 10072 Z0.dv (ZF h.P (first h.P 1).toNat 1 (Z0.mk 1 h.S 0 0) (Z0.mk 0 0 0 0)) ((first h.P 1).toNat) (Z0.mk ((ZF h.P (first h.P 1).toNat 1 (Z0.mk 1 h.S 0 0) (Z0.mk 0 0 0 0)).getD (first h.P 1).toNat M).K ((ZF h.P (first h.P 1).toNat 1 (Z0.mk 1 h.S 0 0) (Z0.mk 0 0 0 0)).getD (first h.P 1).toNat M).S n ((ZF h.P (first h.P 1).toNat 1 (Z0.mk 1 h.S 0 0) (Z0.mk 0 0 0 0)).getD (first h.P 1).toNat M).N) (((ZF h.P (first h.P 1).toNat 1 (Z0.mk 1 h.S 0 0) (Z0.mk 0 0 0 0)).getD (first h.P 1).toNat M).dv) (Fr h.C.pw (Fr h.C.pg (Fr (Lc wD h.W) (Fa (by refine congrArg _ ?_;(simp only[Cw,q4] ;exact sj):Lc Z0.dv ((ZF h.P (first h.P 1).toNat 1 (Z0.mk 1 h.S 0 0) (Z0.mk 0 0 0 0)).set (first h.P 1).toNat (Z0.mk ((ZF h.P (first h.P 1).toNat 1 (Z0.mk 1 h.S 0 0) (Z0.mk 0 0 0 0)).getD (first h.P 1).toNat M).K ((ZF h.P (first h.P 1).toNat 1 (Z0.mk 1 h.S 0 0) (Z0.mk 0 0 0 0)).getD (first h.P 1).toNat M).S n ((ZF h.P (first h.P 1).toNat 1 (Z0.mk 1 h.S 0 0) (Z0.mk 0 0 0 0)).getD (first h.P 1).toNat M).N))=Lc Z0.dv (Heap.mk h.C h.W (Cw (ZF h.P (first h.P 1).toNat 1 (Z0.mk 1 h.S 0 0) (Z0.mk 0 0 0 0)) (first h.P 1).toNat n) h.S (first h.P 1)).P) (Fr h.S (Fr (first h.P 1) (Fr (first h.P 1) (Fr (0:Int) (Fr (0:Int) Fz)))))))))))))
def ZaN(h:Heap)(n:Int)(hp:Z9 h=O)(hn:1<=n/\n<=256)(hk:¬ 0<need h.C n)(hf:¬ GH h n)(hg:¬ (0<=first h.P 1/\(Bw h.P:Int)<ZY h.C)):GP 67 [h.av,nI n] Lb (.tu [ZH.av,.ag [nI 0,nI 0],nI 3]) []:=by exact gF [] func67 []<|Fc 17 (@Zce h n aa aa aa aa oq)<|Fnl (Fnl Fz)
def Zje(h:Heap) n(c:Z9 h=O)(hk:0<need h.C n)(a:0<=first h.P (need h.C n)/\Bw h.P+need h.C n<=ZY h.C):GP 67 [h.av,nI n] Lb (.tu [Heap.av ⟨h.C,h.W,(H7 h.C h.P (first h.P (need h.C n)) h.S n).1,h.S,h.B⟩,.ag [nI (first h.P (need h.C n)),nI 0],nI 0]) []:=by
 have po:=B7 c;obtain⟨r1,r2,r3⟩:=HU a.1;have b:=N3 h.C n;have e:(H7 h.C h.P (first h.P (need h.C n)) h.S n).1=ZF h.P (first h.P (need h.C n)).toNat (need h.C n).toNat ⟨2,h.S,n,0⟩ ⟨3,h.S,0,0⟩:=by(rw[H7,if_pos oq,EQ,if_pos oq,if_pos r3])
 rw[e];exact gF [] func67 []<|Fc 17 (@ZfD h n aa aa aa)<|Fc 96 (@Zgn h.C h.P (first h.P (need h.C n)) h.S n oq oq aa oq aa) Fz
def Zgy(h:Heap) n(hp:Z9 h=O)(hk:0<need h.C n)(hg:¬ (0<=first h.P (need h.C n)/\Bw h.P+need h.C n<=ZY h.C)):GP 67 [h.av,nI n] Lb (.tu [ZH.av,.ag [nI 0,nI 0],nI 3]) []:=by exact gF [] func67 []<|Fc 17 (@ZjF h n aa aa oq)<|Fnl (Fnl Fz)
end Go.Proofs.YtkmnngahjnkdmaaGreat
