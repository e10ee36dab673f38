/-
 The statement CollectHeaps: part 16.
 Conditions: none.
-/
import Derived.Test.YtgedmeaemofdkaaGreatA15
set_option maxRecDepth 100000
set_option maxHeartbeats 2000000
set_option linter.all false
open Inhabited renaming default->M
open Decidable renaming decide->O,not_not->LG
open Bool renaming true->La,false->Lc
open List renaming map->Lb,replicate->Le,take->Lf,drop->Lg,getD_eq_getElem?_getD->Lh,range->Lj,mem_append_left->Lk,getElem?_eq_getElem->Ll,append_assoc->Lm,find?_range_eq_some->Lo,map_append->Lp,map_drop->Lq,map_take->Lr,length_map->Lu,mem_append_right->Lv,mem_range->Lw,filter_append->Lz,find?_eq_none->LA,length_replicate->LB,map_set->LC,take_append_drop->LF,drop_eq_getElem_cons->LM,getElem?_append_left->LN,length_take->LO,mem_map->LQ,pairwise_append->LR,getElem?_replicate->LU,getElem_of_mem->LV,length_append->LW,map_replicate->LY,mem_append->LZ,mem_cons->L0,mem_filter->L1,pairwise_iff_getElem->L2,takeWhile_sublist->L3,take_length->L4
open Int renaming toNat->Ld,mul_comm->Ly,mul_nonneg->LD,add_mul->LH,one_mul->LI,toNat_natCast->LL
open Option renaming some->Li,none->Lx,getD_some->L7
open Nat renaming le_refl->Ln,le_trans->LS,lt_or_ge->L5,not_lt_zero->L6
open Or renaming inl->Ls,inr->Lt
open Go.Proofs.Tryz
namespace Go.Proofs.YtgedmeaemofdkaaGreat
open Go.Sx
def Z5I{h:Heap}{i o}(e:(address h.C i o).2=0):B8 h i o=4096+(i*h.C.pw+o)/\0<=i/\i<h.C.pg/\0<=o/\o<h.C.pw:=by unfold address at e;split at e;rename_i c;split at e;rename_i a;have b:=a;unfold inB at a;simp at a;refine⟨?_,by omega,by omega,by omega,by omega⟩;unfold B8 address;rw[if_pos c,if_pos b];simp at e;simp at e
def Z2X{h i}:∀{f:Nat} {o:Int},∀x∈(EH h i f o).1,4096+(i*h.C.pw+o)<=x.addr/\x.addr<4096+(i*h.C.pw+h.C.pw)
 |0,o,x,hx=>by simp[EH]at hx
 |f+1,o,x,hx=>by
  unfold EH at hx;split at hx
  .split at hx
   .rename_i a;have ha:=Z5I a.1;rcases L0.1 hx with rfl|hx
    .simp only;omega
    .have:=Z2X x hx;have:=I8 (Z9 h (B8 h i o)).1;omega
   .simp at hx
  .simp at hx
def Z80{h i}:∀{f:Nat} {o:Int},((EH h i f o).1.map (·.addr)).Pairwise (· < ·)
 |0,o=>by simp[EH]
 |f+1,o=>by
  unfold EH;split
  .split
   .rename_i a;have ha:=Z5I a.1;have hs:=Z0F a.2;rw[List.map_cons,List.pairwise_cons];refine⟨λy c=>?_,Z80⟩;obtain⟨x,b,rfl⟩:=LQ.1 c;have:=(Z2X x b).1;simp only;omega
   .simp
  .simp
def Z1S{h i}:∀x∈(BN h i).1,4096+i*h.C.pw<=x.addr/\x.addr<4096+(i+1)*h.C.pw:=by
 intro x a;have e:(i+1)*h.C.pw=i*h.C.pw+h.C.pw:=by rw[LH,LI]
 unfold BN GQ at a;split at a;split at a;have:=Z2X x a;omega;simp at a;simp at a
def ZdA(h:Heap) i:((BN h i).1.map (·.addr)).Pairwise (· < ·):=by unfold BN GQ;split;split;exact Z80;simp;simp
def Z8s{h:Heap}(a:0<=h.C.pw):∀(f i:Nat),∀x∈(CG h f i).1,4096+i*h.C.pw<=x.addr
 |0,i,x,hx=>by simp[CG]at hx
 |f+1,i,x,hx=>by
  unfold CG at hx;split at hx
  .split at hx
   .rcases LZ.1 hx with hx|hx
    .exact(Z1S x hx).1
    .have:=Z8s a f (i+1) x hx;have e:((i+1:Nat):Int)*h.C.pw=i*h.C.pw+h.C.pw:=by push_cast;rw[LH,LI]
     omega
   .simp at hx
  .simp at hx
def Z5G{h:Heap}(c:0<=h.C.pw):∀(f i:Nat),((CG h f i).1.map (·.addr)).Pairwise (· < ·)
 |0,i=>by simp[CG]
 |f+1,i=>by
  unfold CG;split
  .split
   .rw[Lp,LR];refine⟨ZdA h i,Z5G c f (i+1),λa d b g=>?_⟩;obtain⟨x,j,rfl⟩:=LQ.1 d;obtain⟨y,k,rfl⟩:=LQ.1 g;have h1:=(Z1S x j).2;have h2:=Z8s c f (i+1) y k;have e:((i+1:Nat):Int)*h.C.pw=((i:Int)+1)*h.C.pw:=by push_cast;rfl
    omega
   .simp
  .simp
def Pn(h:Heap):(Cx h).1.Pairwise (· < ·):=by rw[Z1u h];unfold Cq;split;rename_i a;exact Z5G (by have:=B5 a;omega) _ _;simp
def Z9j(h:Heap):(Zt h).1.Pairwise (· < ·):=by unfold Zt;exact(Pn h).filter _
def ZX(l:List Int)(v:Int):Nat:=(l.takeWhile (λx=>O (x<v))).length
def Z8M l(v:Int):ZX l v<=l.length:=by unfold ZX;exact(L3 _).length_le
def Z2K{l:List Int}{v:Int}(hs:l.Pairwise (· < ·)){k:Nat}(c:k<l.length):(l.getD k M<v↔k<ZX l v):=by
 have e:l.getD k M=l[k]:=by rw[Lh,Ll c];rfl
 rw[e];constructor;intro h;by_cases f:k<ZX l v;exact f;exfalso;have d:ZX l v<l.length:=by omega
 have a:=SY (λx=>O (x<v)) l d;have b:¬ l[ZX l v]<v:=by(have:O (l[ZX l v]<v)=Lc:=a;simpa using this)
 rcases L5 (ZX l v) k with hlt|hge;have:=L2.1 hs (ZX l v) k d c hlt;omega;have:ZX l v=k:=by omega
 simp only[this]at b;exact b h;intro h;obtain⟨h1,a⟩:=SR _ _ _ h;simpa using a
def Zfk{l:List Int}{v:Int}(hs:l.Pairwise (· < ·)):(v∈l↔ZX l v<l.length/\l.getD (ZX l v) M=v):=by
 constructor;intro h;obtain⟨k,a,e⟩:=LV h;have f:l.getD k M=v:=by rw[Lh,Ll a,<-e];rfl
 have b:¬ k<ZX l v:=λq=>by have:=(Z2K (v:=v) hs a).2 q;omega
 have c:k=ZX l v:=by
  rcases L5 (ZX l v) k with hlt|hge;have d:ZX l v<l.length:=by omega
  have h3:¬ l.getD (ZX l v) M<v:=λq=>by have:=(Z2K (v:=v) hs d).1 q;omega
  have h4:=L2.1 hs (ZX l v) k d a hlt;have e5:l.getD (ZX l v) M=l[ZX l v]:=by rw[Lh,Ll d];rfl
  omega;omega
 subst c;exact⟨a,f⟩;rintro⟨b,c⟩;rw[<-c,Lh,Ll b];exact List.getElem_mem b
def AE x:GP 174 [uU x] La (bL Lc) []:=by exact gF [] func174 [La]<|Fbs ((x != x)=Lc) Fz
def Z7D x:GP 208 [uU x] La (bL Lc) []:=by exact gF [] func208 [La]<|Fbs ((x != x)=Lc) Fz
def Z6m x y:GP 173 [uU x,uU y] La (bL (O (x<y))) []:=by exact gF [] func173 []<|Fc 6 (@Z7D x)<|FcG 9 Lc (λa=>by(try simp only[bs]at a);exact@Z7D y) Fz
def bsL(l:List Int)(v:Int)(i j:Nat):Tg:=⟨tm 54 [(0,Z2 l),(1,uU v),(4,nI 0),(5,bL Lc),(6,nI l.length),(7,nI i),(8,nI j)],[],60⟩
section
variable(l:List Int)(v:Int)(hl:l.length<=1048576)(i j:Nat)(hij:i<j)(hj:j<=l.length)
include hl hij hj
theorem ZgI(hlt:l.getD ((i+j)/2) M<v):CP (Zl f127 0) (bsL l v i j).st .nrm (bsL l v ((i+j)/2+1) j).st:=by rcases bb (O (l.getD (((i:Int)+(j:Int))/2).toNat M<v))with hc0|hc0<;>have hc0p:=hc0<;>simp only[bs]at hc0p;let y0:=(i:Int)+(j:Int);exact sF [] []<|Fh 27 [.call La (bL (O (l.getD (y0/2).toNat M<v))) [],.br La]<|Ftb 15 (O ((i:Int)<(j:Int)))<|Fi 18 y0<|Fv 19 y0<|Fg 20 (Hs rfl dd:y0.fdiv (2^min (Ld 1) 64)=y0/2)<|Fo ((0:Int)<=1)<|Fi 21 (y0/2)<|Fe 24 wD l (y0/2)<|Fa (@Z6m (l.getD (y0/2).toNat M) v)<|Fa hc0<|Fi 29 (y0/(2:Int)+1) Fz;contradiction
theorem ZeP(hlt:¬ l.getD ((i+j)/2) M<v):CP (Zl f127 0) (bsL l v i j).st .nrm (bsL l v i ((i+j)/2)).st:=by rcases bb (O (l.getD (((i:Int)+(j:Int))/2).toNat M<v))with hc0|hc0<;>have hc0p:=hc0<;>simp only[bs]at hc0p;contradiction;let y0:=(i:Int)+(j:Int);exact sF [] []<|Fh 27 [.call La (bL (O (l.getD (y0/2).toNat M<v))) [],.br Lc]<|Ftb 15 (O ((i:Int)<(j:Int)))<|Fi 18 y0<|Fv 19 y0<|Fg 20 (Hs rfl dd:y0.fdiv (2^min (Ld 1) 64)=y0/2)<|Fo ((0:Int)<=1)<|Fi 21 (y0/2)<|Fe 24 wD l (y0/2)<|Fa (@Z6m (l.getD (y0/2).toNat M) v)<|Fa hc0 Fz
end
def Z6y l v i:CP (Zl f127 0) (bsL l v i i).st (.ext 0) (Tg.st ⟨tm 54 [(0,Z2 l),(1,uU v),(6,nI l.length),(7,nI i)],[],60⟩):=by exact sF [] []<|Ffb 15 (O ((i:Int)<(i:Int))) Fz
def bsGo(l:List Int)(v:Int)(hl:l.length<=1048576)(hs:l.Pairwise (· < ·)):∀(f i j:Nat),j<=i+f->i<=ZX l v->ZX l v<=j->j<=l.length ->
  G2 prog f127 0 (bsL l v i j).st (.ext 0) (Tg.st ⟨tm 54 [(0,Z2 l),(1,uU v),(6,nI l.length),(7,nI (ZX l v))],[],60⟩):=by
 intro f;induction f with
 |zero =>
  intro i j m d e c;obtain⟨rfl,rfl⟩:i=ZX l v/\j=ZX l v:=by omega
  exact .endx (Z6y l v _)
 |succ f h =>
  intro i j m d e c;by_cases b:i<j;have g:=Z2K hs (v:=v) (k:=(i+j)/2) oq;by_cases a:l.getD ((i+j)/2) M<v
  .have:=g.1 a;exact .next (ZgI l v hl i j b c a) (h ((i+j)/2+1) j oq oq e c)
  .have:¬ (i+j)/2<ZX l v:=λq=>a (g.2 q);exact .next (ZeP l v hl i j b c a) (h i ((i+j)/2) oq d oq oq)
  obtain⟨rfl,rfl⟩:i=ZX l v/\j=ZX l v:=by omega
  exact .endx (Z6y l v _)
def Z2z(l:List Int) v(hl:l.length<=1048576)(hs:l.Pairwise (· < ·)):CP (Zk f127 0) (Tg.st ⟨tm 54 [(0,Z2 l),(1,uU v),(4,nI 0),(5,bL Lc),(6,nI l.length),(7,nI 0),(8,nI l.length)],[],60⟩) .nrm (Tg.st ⟨tm 54 [(0,Z2 l),(1,uU v),(6,nI l.length),(7,nI (ZX l v))],[],60⟩):=
 (bsGo l v hl hs l.length 0 l.length oq oq (Z8M l v) (Ln _)).ext kr
def bsearch(l:List Int) v(hl:l.length<=1048576)(hs:l.Pairwise (· < ·)):GP 127 [Z2 l,uU v] La (.tu [nI (ZX l v),bL (O (v∈l))]) []:=by
 have b:=Zfk (v:=v) hs;have hp:=Z8M l v;by_cases c:ZX l v<l.length;by_cases d:l.getD (ZX l v) M=v;have e:O (v∈l)=La:=by simpa using b.2 ⟨c,d⟩
 rw[e];exact gF [] func127 (fO 24)<|Fl 11 wD l<|Fu (@Z2z l v aa aa)<|FeG 38 (O ((↑(ZX l v):Int)<(l.length:Int))) wD l (↑(ZX l v):Int) (ZX l v)<|FeG 45 (O ((↑(ZX l v):Int)<(l.length:Int))&&!l.getD (ZX l v) M==v) wD l (↑(ZX l v):Int) (ZX l v)<|FcG 47 (O ((↑(ZX l v):Int)<(l.length:Int))&&!l.getD (ZX l v) M==v) (λa=>by(try simp only[bs]at a);exact@AE (l.getD (ZX l v) M))<|FcG 50 (O ((↑(ZX l v):Int)<(l.length:Int))&&!l.getD (ZX l v) M==v&&Lc) (λa=>by(try simp only[bs]at a);exact@AE v)<|Fr (↑(ZX l v):Int)<|Fb ((O ((↑(ZX l v):Int)<(l.length:Int))&&(l.getD (ZX l v) M==v||Lc))=La) Fz;have e:O (v∈l)=Lc:=by(simp only[decide_eq_false_iff_not];exactλq=>d (b.1 q).2)
 rw[e];exact gF [] func127 (fO 24)<|Fl 11 wD l<|Fu (@Z2z l v aa aa)<|FeG 38 (O ((↑(ZX l v):Int)<(l.length:Int))) wD l (↑(ZX l v):Int) (ZX l v)<|FeG 45 (O ((↑(ZX l v):Int)<(l.length:Int))&&!l.getD (ZX l v) M==v) wD l (↑(ZX l v):Int) (ZX l v)<|FcG 47 (O ((↑(ZX l v):Int)<(l.length:Int))&&!l.getD (ZX l v) M==v) (λa=>by(try simp only[bs]at a);exact@AE (l.getD (ZX l v) M))<|FcG 50 (O ((↑(ZX l v):Int)<(l.length:Int))&&!l.getD (ZX l v) M==v&&Lc) (λa=>by(try simp only[bs]at a);exact@AE v)<|Fr (↑(ZX l v):Int)<|Fbs ((O ((↑(ZX l v):Int)<(l.length:Int))&&(l.getD (ZX l v) M==v||Lc))=Lc) Fz;have e:O (v∈l)=Lc:=by(simp only[decide_eq_false_iff_not];exactλq=>c (b.1 q).1)
 rw[e];exact gF [] func127 (fO 24)<|Fl 11 wD l<|Fu (@Z2z l v aa aa)<|FeG 38 (O ((↑(ZX l v):Int)<(l.length:Int))) wD l (↑(ZX l v):Int) (ZX l v)<|FeG 45 (O ((↑(ZX l v):Int)<(l.length:Int))&&!l.getD (ZX l v) M==v) wD l (↑(ZX l v):Int) (ZX l v)<|FcG 47 (O ((↑(ZX l v):Int)<(l.length:Int))&&!l.getD (ZX l v) M==v) (λa=>by(try simp only[bs]at a);exact@AE (l.getD (ZX l v) M))<|FcG 50 (O ((↑(ZX l v):Int)<(l.length:Int))&&!l.getD (ZX l v) M==v&&Lc) (λa=>by(try simp only[bs]at a);exact@AE v)<|Fr (↑(ZX l v):Int)<|Fb ((O ((↑(ZX l v):Int)<(l.length:Int))&&(l.getD (ZX l v) M==v||Lc))=Lc) Fz
def Z4O(h:ZB)(i:Int)(hm:0<=h.map/\h.map<=4294967295):GP 162 [h.av,nI i] La (bL (Bt h i)) []:=by
 rcases bb (!ZV h||O (i<0)||O (h.length<=i))with hc0|hc0<;>have hc0p:=hc0<;>simp only[bs]at hc0p
 .exact gF [] func162 (fO 6)<|Fc 6 (@RS h aa)<|Ft 17 hc0<|Fa (by grind[Bt]:Lc=Bt h i) Fz
 .obtain⟨⟨hc0paa,hc0pab⟩,hc0pb⟩:=hc0p;have hf3:=Gq.1 hc0paa;obtain⟨hf3a,⟨hf3ba,⟨hf3bba,⟨hf3bbba,hf3bbbb⟩⟩⟩⟩:=hf3;exact gF [] func162 (fO 17)<|Fc 6 (@RS h aa)<|Ff 17 hc0<|Fa (by intro hg;(try simp only[bs]at hg);omega:(!h.K==2&&h.K==1)=La->0<=i)<|Fa (Z54 h i hm aa oq oq:(h.K==2||h.K==1&&bits BinOp.and IntKind.u32 (h.map.fdiv (2^min i.toNat 32)) (1:Int)==1)=Bt h i) Fz
def O6(h:ZB)(i:Nat):Tg:=⟨tm 19 [(1,.pt 8001 0 0),(2,.d (.sl 0 [])),(3,.ow 16003),(6,nI (Z5 h)),(7,nI i)],[(16003,.arr 3 1 ((Ch h i).map iD)),(8001,.box 52 [nI h.K,nI h.length,u32 h.map])],60⟩
def Zkf(h:ZB)(i:Nat)(hm:0<=h.map/\h.map<=4294967295)(hi:(i:Int)<Z5 h):CP (Zl f110 0) (O6 h i).st .nrm (O6 h (i+1)).st:=by
 have hn:=Ml h i;have hs:=I8 h;by_cases a:Bt h (i:Int)=La;have e:Ch h (i+1)=Ch h i++[(i:Int)]:=by rw[Ch,if_pos a]
 exact sF [(504016,16003)] (fO 5)<|Fh 12 [.call La (bL (Bt h (i:Int))) [],.br La]<|Fh 16 [.els (Lb iD (Ch h i++[(i:Int)]))]<|Ftb 8 (O ((i:Int)<Z5 h))<|Fa (@Z4O h ((i:Int)) aa)<|Fa ‹Bt h (i:Int)=La›<|Fs 15 (Lb iD [(i:Int)])<|Fa (by(simp[*];omega):(Lb iD (Ch h i)).length+(Lb iD [(i:Int)]).length<=2^30)<|Fa (ms:Lb iD (Ch h i)++Lb iD [(i:Int)]=Lb iD (Ch h i++[(i:Int)]))<|Fx 17 i<|Fr (3:Int)<|Fa (by refine congrArg _ ?_;rw[e]:Lb iD (Ch h i++[(i:Int)])=Lb iD (Ch h (i+1))) Fz;have e:Ch h (i+1)=Ch h i:=by rw[Ch,if_neg a]
 have b:Bt h (i:Int)=Lc:=by simpa using a
 exact sF [] (fO 5)<|Fh 12 [.call La (bL (Bt h (i:Int))) [],.br Lc]<|Ftb 8 (O ((i:Int)<Z5 h))<|Fa (@Z4O h ((i:Int)) aa)<|Fa ‹Bt h (i:Int)=Lc›<|Fx 17 i<|Fr (3:Int)<|Fa (by refine congrArg _ ?_;rw[e]:Lb iD (Ch h i)=Lb iD (Ch h (i+1))) Fz
def Zea(h:ZB)(i:Nat)(hi:(i:Int)=Z5 h):CP (Zl f110 0) (O6 h i).st (.ext 0) (Tg.st ⟨tm 19 [(2,.d (.sl 0 [])),(3,.ow 16003)],[(16003,.arr 3 1 ((Ch h i).map iD))],60⟩):=by exact sF [] []<|Ffb 8 (O ((i:Int)<Z5 h)) Fz
def Z6p(h:ZB):Ch h (Z5 h).toNat=Zz h:=by unfold Zz Z5;by_cases a:ZV h=La;rw[if_pos a,if_pos a];have hb:=Gq.1 a;rw[show(h.length+1).toNat=h.length.toNat+1 from by omega,Ch,if_neg];unfold Bt;simp;omega;rw[if_neg a,if_neg a];rfl
def Zg6(h:ZB)(a:0<=h.map/\h.map<=4294967295):CP (Zk f110 0) (Tg.st ⟨tm 19 [(1,.pt 8001 0 0),(2,.d (.sl 0 [])),(3,.ow 16003),(6,nI (Z5 h)),(7,nI 0)],[(16003,.arr 3 1 []),(8001,.box 52 [nI h.K,nI h.length,u32 h.map])],60⟩) .nrm (Tg.st ⟨tm 19 [(2,.d (.sl 0 [])),(3,.ow 16003)],[(16003,.arr 3 1 ((Zz h).map iD))],60⟩):=by have hs:=I8 h;rw[<-Z6p];exact Bp (S:=λi=>(O6 h i).st) (Z5 h).toNat kr (λi hi=>Zkf h i a oq) (Zea h _ oq)
def O7(h:ZB)(hm:0<=h.map/\h.map<=4294967295):GP 110 [h.av] La (.d (.sl 1 ((Zz h).map iD))) []:=by exact gF [] func110 []<|Fh 3 [.own]<|Fc 6 (@EC h aa)<|Fu (@Zg6 h aa)<|Fa (AN _:Cd (Lb iD (Zz h))) Fz
def Ah(h:Heap)(i:Nat):Tg:=⟨tm 19 [(1,nI i),(2,.pt 8002 0 0),(4,nI 0)],[(8002,.box 28 h.cells)],60⟩
def ZjL(h:Heap)(i:Nat)(hi:i+1<h.P.length)(hl:h.P.length<=1048576)(hk:(h.P.getD (i+1) M).K=3):CP (Zl f247 0) (Ah h (i+1)).st .nrm (Ah h i).st:=by
 have ei:((i+1:Nat):Int)-1=(i:Int):=by omega
 exact sF [] []<|FeG 11 (O (0<(↑(i+1):Int))) Z0.dv h.P (↑(i+1):Int) (i+1)<|Ftb 15 (O (0<(↑(i+1):Int))&&(h.P.getD (i+1) M).K==3)<|Fg 17 (by rw[CR oq oq];omega:IntKind.i64.wrap ((↑(i+1):Int)-1)=(i:Int)) Fz
def Z59(h:Heap)(i:Nat)(hi:i<h.P.length)(hl:h.P.length<=1048576)(hk:¬ (h.P.getD i M).K=3):CP (Zl f247 0) (Ah h i).st (.ext 0) (Tg.st ⟨tm 19 [(1,nI i),(4,nI 0)],[],60⟩):=by exact sF [] []<|FeG 11 (O (0<(i:Int))) Z0.dv h.P (↑i) i<|Ffb 15 (O (0<(i:Int))&&(h.P.getD i M).K==3) Fz
def Z91(h:Heap)(b:Z8 h=La)(hl:h.P.length<=1048576):∀i,i<h.P.length->G2 prog f247 0 (Ah h i).st (.ext 0) (Tg.st ⟨tm 19 [(1,nI (B1 h.P i)),(4,nI 0)],[],60⟩)
 |0,hi=>.endx (Z59 h 0 hi hl (Z8b b))
 |i+1,hi=>by
  unfold B1;by_cases a:(h.P.getD (i+1) M).K=3
  .rw[if_pos a];exact .next (ZjL h i hi hl a) (Z91 h b hl i oq)
  .rw[if_neg a];exact .endx (Z59 h (i+1) hi hl a)
def Zjl(h:Heap)(i:Nat)(b:Z8 h=La)(a:i<h.P.length)(hl:h.P.length<=1048576):CP (Zk f247 0) (Ah h i).st .nrm (Tg.st ⟨tm 19 [(1,nI (B1 h.P i)),(4,nI 0)],[],60⟩):=
 (Z91 h b hl i a).ext kr
def ZgU(h:Heap)(i:Nat)(a:Z8 h=La)(hi:i<h.P.length):GP 247 [h.av,nI i] La (nI (B1 h.P i)) []:=by have po:=B5 a;exact gF [] func247 []<|Fu (@Zjl h i aa aa oq) Fz
def AM(h:Heap)(i:Int)(l:List Int)(n:Nat):Tg:=⟨tm 58 [(1,nI i),(3,.pt 8003 0 0),(6,uU 0),(7,bL Lc),(13,Z2 l),(14,nI l.length),(15,nI n)],[(8003,.box 28 h.cells)],60⟩
section
variable(h:Heap)(i:Int)(l:List Int)(n:Nat)(a:Zy h.W)(hl:l.length<=1048576)(b:0<=i/\i<h.P.length)(c:h.P.length<=1048576)(hr:∀x∈l,0<=x/\x<=8192)
include a hl b c hr
theorem Z7d(g:n<l.length)(f:Gh h i (l.getD n M)=Lc):CP (Zl f228 0) (AM h i l n).st .nrm (AM h i l (n+1)).st:=by have hx:=hr (l.getD n M) (BI.2 ⟨n,g,rfl⟩);have hm:=Iw a (l.getD n M);simp only[Gh,bs]at f;let d:=Z9 h (l.getD n M);let e:=h.P.getD i.toNat M;exact sF [] []<|Ftb 16 (O ((n:Int)<(l.length:Int)))<|Fek 17 wD l (↑n) n<|Fc 22 (@N5 h (l.getD n M) aa oq)<|Fc 26 (@EC (d.1) aa)<|Fc 29 (@OR h.C)<|Fe 34 Z0.dv h.P i<|FeGq 46 (!(e.K==1&&!decide (Z5 d.1<=Zc h.C))) Z0.dv h.P i<|Ffb 55 (e.K==1&&!decide (Z5 d.1<=Zc h.C)||e.K==2&&d.1.K==0)<|Fx 57 n Fz
theorem Zgi(g:n<l.length)(f:Gh h i (l.getD n M)=La):CP (Zl f228 0) (AM h i l n).st .ret (Tg.st ⟨tm 58 [(6,uU (l.getD n M)),(7,bL La)],[],60⟩):=by have hx:=hr (l.getD n M) (BI.2 ⟨n,g,rfl⟩);have hm:=Iw a (l.getD n M);simp only[Gh,bs]at f;let d:=Z9 h (l.getD n M);let e:=h.P.getD i.toNat M;exact sF [] []<|Ftb 16 (O ((n:Int)<(l.length:Int)))<|Fek 17 wD l (↑n) n<|Fc 22 (@N5 h (l.getD n M) aa oq)<|Fc 26 (@EC (d.1) aa)<|Fc 29 (@OR h.C)<|Fe 34 Z0.dv h.P i<|FeGq 46 (!(e.K==1&&!decide (Z5 d.1<=Zc h.C))) Z0.dv h.P i<|Ftb 55 (e.K==1&&!decide (Z5 d.1<=Zc h.C)||e.K==2&&d.1.K==0) Fz
omit a hl b c hr in
theorem Zlh:CP (Zl f228 0) (AM h i l l.length).st (.ext 0) (Tg.st ⟨tm 58 [(6,uU 0),(7,bL Lc)],[],60⟩):=by exact sF [] []<|Ffb 16 (O ((l.length:Int)<(l.length:Int))) Fz
end
def ZfS(h:Heap)(i:Int)(l:List Int)(e:Zy h.W)(hl:l.length<=1048576)(c:0<=i/\i<h.P.length)(d:h.P.length<=1048576)(hr:∀x∈l,0<=x/\x<=8192)(b:l.find? (Gh h i)=Lx) :CP (Zk f228 0) (Tg.st ⟨tm 58 [(1,nI i),(3,.pt 8003 0 0),(6,uU 0),(7,bL Lc),(13,Z2 l),(14,nI l.length),(15,nI 0)],[(8003,.box 28 h.cells)],60⟩) .nrm (Tg.st ⟨tm 58 [(6,uU 0),(7,bL Lc)],[],60⟩):=
 Bp (S:=λn=>(AM h i l n).st) l.length kr (λn a=>Z7d h i l n e hl c d hr a (Ot b n a)) (Zlh h i l)
def Zgd(h:Heap)(i:Int)(l:List Int)(x:Int)(c:Zy h.W)(hl:l.length<=1048576)(a:0<=i/\i<h.P.length)(b:h.P.length<=1048576)(hr:∀x∈l,0<=x/\x<=8192)(j:l.find? (Gh h i)=Li x) :CP (Zk f228 0) (Tg.st ⟨tm 58 [(1,nI i),(3,.pt 8003 0 0),(6,uU 0),(7,bL Lc),(13,Z2 l),(14,nI l.length),(15,nI 0)],[(8003,.box 28 h.cells)],60⟩) .ret (Tg.st ⟨tm 58 [(6,uU x),(7,bL La)],[],60⟩):=by obtain⟨n,d,e,f,g⟩:=Ag j;subst e;exact Ev (S:=λn=>(AM h i l n).st) n kr (λm k=>Z7d h i l m c hl a b hr oq (g m k)) (Zgi h i l n c hl a b hr d f)
def EZ(h:Heap)(i:Int)(l:List Int):Bool:=(l.find? (Gh h i)).isSome
def AL(h:Heap)(i:Int)(l:List Int)(hw:Zy h.W)(hl:l.length<=1048576)(hp:h.P.length<=1048576)(hi:0<=i/\i<h.P.length)(hr:∀x∈l,0<=x/\x<=8192):GP 228 [h.av,nI i,Z2 l] La (.tu [uU (Cj h i l),bL (EZ h i l)]) []:=by
 cases hf:l.find? (Gh h i)with
 |none =>
  have a:Cj h i l=0:=by rw[Cj,hf];rfl
  have b:EZ h i l=Lc:=by rw[EZ,hf];rfl
  rw[a,b];exact gF [] func228 []<|Fl 14 wD l<|Fu (@ZfS h i l aa aa aa aa aa aa) Fz
 |some x =>
  have a:Cj h i l=x:=by rw[Cj,hf];rfl
  have b:EZ h i l=La:=by rw[EZ,hf];rfl
  rw[a,b];exact gF [] func228 []<|Fl 14 wD l<|Fu (@Zgd h i l x aa aa aa aa aa aa) Fz
def Zc7 w(a:R4 w)(sc:0<=w.D)(hs:¬ w.D<w.Q.length):BP 131 [.pt 0 0 0] w.ckp (.tu [bL Lc,nI 0]) w.ckp:=by obtain⟨h1,h2,h3,h4,h5⟩:=a;exact borF [0,1,2,3,4,5] [] func131 []<|FlG 28 (!decide (w.D<0)) wD w.Q<|Ftb 30 (O (w.D<0)||O ((w.Q.length:Int)<=w.D)) Fz
def ZhM{ws:List Int}{a v:Int}(h:4096<=a/\a<4096+ws.length):(BY ws a v).1=ws.set (a-4096).toNat v:=by unfold BY ZU;rw[if_pos (by simp only[List.length_cons,List.length_nil];omega)];exact Z4K oq
def HK(w:Z7):List (Nat×Z4):=[(0,w.ckB 1 8002 3 8004 8005),(1,Bd w.j.W),(8002,EE w.j.P),(3,Bd w.old),(8004,EK w.T),(8005,Bd w.Q)]
def AR(w:Z7)(a n:Int)(l:List Int)(k:Nat):Tg:=⟨tm 116 [(0,.pt 0 0 0),(2,bL Lc),(3,nI 0),(5,.os 1 (a-4096).toNat n.toNat),(9,ZE l),(72,ZE l),(73,nI l.length),(74,nI k)],HK w,12⟩
section
variable(w:Z7)(a n:Int)(l:List Int)(k:Nat)(hk:k<l.length)(b:l.length<=255)(hx:0<=l.getD k M/\l.getD k M+1<n)(hn:n<=256)(ha:4096<=a/\a-4096+n<=w.j.W.length)(f:FwOk w (Z1 w.j.W (a+1+l.getD k M)).1)
include hk b hx hn ha f
theorem Z8e(e:(w.fwd (Z1 w.j.W (a+1+l.getD k M)).1).2.2=0)(c:(w.fwd (Z1 w.j.W (a+1+l.getD k M)).1).1.j.W.length=w.j.W.length):CP (Zl f131 0) (AR w a n l k).st .nrm (AR (w.in1 (a+1+l.getD k M)) a n l (k+1)).st:=by
 have d:(Z1 w.j.W (a+1+l.getD k M)).1=w.j.W.getD ((a-4096).toNat+(1+l.getD k M).toNat) M:=by(unfold Z1;rw[if_pos oq,show(a-4096).toNat+(1+l.getD k M).toNat=(a+1+l.getD k M-4096).toNat by omega];rfl)
 have wl:=f.ck.ok.wl;have g:(w.in1 (a+1+l.getD k M))=⟨⟨(w.fwd (Z1 w.j.W (a+1+l.getD k M)).1).1.j.C,(w.fwd (Z1 w.j.W (a+1+l.getD k M)).1).1.j.W.set ((a-4096).toNat+(1+l.getD k M).toNat) (w.fwd (Z1 w.j.W (a+1+l.getD k M)).1).2.1,(w.fwd (Z1 w.j.W (a+1+l.getD k M)).1).1.j.P,(w.fwd (Z1 w.j.W (a+1+l.getD k M)).1).1.j.S,(w.fwd (Z1 w.j.W (a+1+l.getD k M)).1).1.j.B⟩,(w.fwd (Z1 w.j.W (a+1+l.getD k M)).1).1.old,(w.fwd (Z1 w.j.W (a+1+l.getD k M)).1).1.T,(w.fwd (Z1 w.j.W (a+1+l.getD k M)).1).1.Q,(w.fwd (Z1 w.j.W (a+1+l.getD k M)).1).1.D,(w.fwd (Z1 w.j.W (a+1+l.getD k M)).1).1.rep⟩:=by(unfold Z7.in1;rw[ZhM oq,show(a-4096).toNat+(1+l.getD k M).toNat=(a+1+l.getD k M-4096).toNat by omega])
 rw[g];rw[d]at e c f⊢;exact sF [(113085,8002),(114085,8004),(115085,8005)] []<|Fh 84 [.el (wD (w.j.W.getD ((a-4096).toNat+(1+l.getD k M).toNat) M))]<|Fh 10095 [.els (Lb wD ((w.fwd (w.j.W.getD ((a-4096).toNat+(1+l.getD k M).toNat) M)).1.j.W.set ((a-4096).toNat+(1+l.getD k M).toNat) (w.fwd (w.j.W.getD ((a-4096).toNat+(1+l.getD k M).toNat) M)).2.1))]<|Ftb 75 (O ((k:Int)<(l.length:Int)))<|Fek 76 iD l (↑k) k<|Fi 82 (1+l.getD k M)<|Fo ((0:Int)<=1+l.getD k M/\(1+l.getD k M).toNat<n.toNat)<|Fa (ZR oq:(Lb wD w.j.W)[(a-4096).toNat+(1+l.getD k M).toNat]?=Li (wD (w.j.W.getD ((a-4096).toNat+(1+l.getD k M).toNat) M)))<|Fbr 85 [0,1,8002,3,8004,8005] (@Z9r w (w.j.W.getD ((a-4096).toNat+(1+l.getD k M).toNat) M) aa aa)<|Fi 93 (1+l.getD k M)<|Fo ((0:Int)<=1+l.getD k M/\(1+l.getD k M).toNat<n.toNat)<|Fa (by(simp only[Lu];omega):(a-4096).toNat+(1+l.getD k M).toNat<(Lb wD (w.fwd (w.j.W.getD ((a-4096).toNat+(1+l.getD k M).toNat) M)).1.j.W).length)<|Fa (ms:(Lb wD (w.fwd (w.j.W.getD ((a-4096).toNat+(1+l.getD k M).toNat) M)).1.j.W).set ((a-4096).toNat+(1+l.getD k M).toNat) [ZD (w.fwd (w.j.W.getD ((a-4096).toNat+(1+l.getD k M).toNat) M)).2.1]=Lb wD ((w.fwd (w.j.W.getD ((a-4096).toNat+(1+l.getD k M).toNat) M)).1.j.W.set ((a-4096).toNat+(1+l.getD k M).toNat) (w.fwd (w.j.W.getD ((a-4096).toNat+(1+l.getD k M).toNat) M)).2.1))<|Fx 96 k Fz
theorem ZfM(e:¬ (w.fwd (Z1 w.j.W (a+1+l.getD k M)).1).2.2=0):CP (Zl f131 0) (AR w a n l k).st .ret (Tg.st ⟨tm 116 [(2,bL Lc),(3,nI (w.fwd (Z1 w.j.W (a+1+l.getD k M)).1).2.2)],HK w,60⟩):=by
 have g:(Z1 w.j.W (a+1+l.getD k M)).1=w.j.W.getD ((a-4096).toNat+(1+l.getD k M).toNat) M:=by(unfold Z1;rw[if_pos oq,show(a-4096).toNat+(1+l.getD k M).toNat=(a+1+l.getD k M-4096).toNat by omega];rfl)
 rw[g]at e f⊢;let d:=1+l.getD k M;let c:=w.j.W.getD ((a-4096).toNat+d.toNat) M;exact sF [] []<|Fh 84 [.el (wD c)]<|Ftb 75 (O ((k:Int)<(l.length:Int)))<|Fek 76 iD l (↑k) k<|Fi 82 d<|Fo ((0:Int)<=1+l.getD k M/\d.toNat<n.toNat)<|Fa (ZR oq:(Lb wD w.j.W)[(a-4096).toNat+d.toNat]?=Li (wD c))<|Fbq 85 [0,1,8002,3,8004,8005] (@Z7A w c aa aa)<|Ftb 89 ((w.fwd c).2.2 != 0) Fz
end
def ZcD w a n l:CP (Zl f131 0) (AR w a n l l.length).st (.ext 0) (Tg.st ⟨tm 116 [(0,.pt 0 0 0),(9,ZE l)],HK w,12⟩):=by exact sF [] []<|Ffb 75 (O ((l.length:Int)<(l.length:Int))) Fz
structure Mw (w:Z7) (a:Int) (l:List Int):Prop where
 f:∀k,k<l.length->(∀j,j<k->BW w a l j=0)->FwOk (Bq w a l k) (Z1 (Bq w a l k).j.W (a+1+l.getD k M)).1
 h:∀k,k<=l.length->(∀j,j<k->BW w a l j=0)->(Bq w a l k).j.W.length=w.j.W.length
 m:∀k,k<l.length->(∀j,j<k->BW w a l j=0)->((Bq w a l k).fwd (Z1 (Bq w a l k).j.W (a+1+l.getD k M)).1).2.2=0->((Bq w a l k).fwd (Z1 (Bq w a l k).j.W (a+1+l.getD k M)).1).1.j.W.length=w.j.W.length
section
variable(w:Z7)(a n:Int)(l:List Int)(hN:Mw w a l)(b:l.length<=255)(hr:∀x∈l,0<=x/\x+1<n)(d:n<=256)(c:4096<=a/\a-4096+n<=w.j.W.length)
include hN b hr d c
theorem ZfF(m:(Lj l.length).find? (λk=>O (BW w a l k≠0))=Lx):CP (Zk f131 0) (Tg.st ⟨tm 116 [(0,.pt 0 0 0),(2,bL Lc),(3,nI 0),(5,.os 1 (a-4096).toNat n.toNat),(9,ZE l),(72,ZE l),(73,nI l.length),(74,nI 0)],HK w,12⟩) .nrm (Tg.st ⟨tm 116 [(0,.pt 0 0 0),(9,ZE l)],HK (Bq w a l l.length),12⟩):=by
 have g:∀j,j<l.length->BW w a l j=0:=λj i=>by(have:=LA.1 m j (Lw.2 i);simpa using this)
 have o:∀k,k<l.length->0<=l.getD k M/\l.getD k M+1<n:=λk e=>hr _ (BI.2 ⟨k,e,rfl⟩);exact Bp (S:=λk=>(AR (Bq w a l k) a n l k).st) l.length kr (λk e=>by
  have f:∀j,j<k->BW w a l j=0:=λj i=>g j oq;have h:=hN.h k oq f;exact Z8e _ a n l k e b (o k e) d (by rw[h];exact c) (hN.f k e f) (g k e) ((hN.m k e f (g k e)).trans h.symm)) (ZcD _ a n l)
theorem Zkg i(s:(Lj l.length).find? (λk=>O (BW w a l k≠0))=Li i):CP (Zk f131 0) (Tg.st ⟨tm 116 [(0,.pt 0 0 0),(2,bL Lc),(3,nI 0),(5,.os 1 (a-4096).toNat n.toNat),(9,ZE l),(72,ZE l),(73,nI l.length),(74,nI 0)],HK w,12⟩) .ret (Tg.st ⟨tm 116 [(2,bL Lc),(3,nI (BW w a l i))],HK (Bq w a l i),60⟩):=by
 obtain⟨q,f,r⟩:=Lo.1 s;have f:=Lw.1 f;have e:∀j,j<i->BW w a l j=0:=λj o=>by simpa using r j o
 have p:∀k,k<l.length->0<=l.getD k M/\l.getD k M+1<n:=λk h=>hr _ (BI.2 ⟨k,h,rfl⟩);exact Ev (S:=λk=>(AR (Bq w a l k) a n l k).st) i kr (λk h=>by
  have m:∀j,j<k->BW w a l j=0:=λj o=>e j oq;have g:=hN.h k oq m;exact Z8e _ a n l k oq b (p k oq) d (by rw[g];exact c) (hN.f k oq m) (e k h) ((hN.m k oq m (e k h)).trans g.symm)) (by
  have g:=hN.h i oq e;exact ZfM _ a n l i f b (p i f) d (by rw[g];exact c) (hN.f i f e) (of_decide_eq_true q))
end
def ZiY w(k:HV w)(hs:w.D<w.Q.length)(sc:0<=w.D)(hr:4096<=w.Q.getD w.D.toNat M/\w.Q.getD w.D.toNat M+Zr w.j.W (w.Q.getD w.D.toNat M)<4096+w.j.W.length)(hd:(Z6 (Z1 w.j.W (w.Q.getD w.D.toNat M)).1).2=La)(hN:Mw w (Bz w) (B4 w))(a:∀j,j<(B4 w).length->BW w (Bz w) (B4 w) j=0):BP 131 [.pt 0 0 0] w.ckp (.tu [bL La,nI 0]) (HE (Bq w (Bz w) (B4 w) (B4 w).length) (B4 w).length).ckq:=by
 have c:(Lj (B4 w).length).find? (λk=>O (BW w (Bz w) (B4 w) k≠0))=Lx:=LA.2 λj d=>by simp[a j (Lw.1 d)]
 have f:=k.mem;obtain⟨h1,h2,h3,h4,h5⟩:=k.ln;have ok:=k.ok;have k1:=Nh ok (Bz w) (B4 w) (B4 w).length a;have h:=k1.1.rs;have i:=k1.1.sc;have l:=k1.1.mu;have pr:=(OV (Zv w (Bz w)));have pl:∀x∈B4 w,0<=x/\x+1<Zr w.j.W (Bz w)+1:=λx g=>by(have:=Ad (Zv w (Bz w)) x g;unfold Zv at this;unfold Zr;omega)
 have lr:=BQ w.j.W (w.Q.getD w.D.toNat M);have cf:=BF.1 ok.C;have ld:=EM ok.W (w.Q.getD w.D.toNat M);have b:=GA w (w.Q.getD w.D.toNat M);have m:=Nx w (w.Q.getD w.D.toNat M);have e:=Ij (Z1 w.j.W (w.Q.getD w.D.toNat M)).1 ld.1;have el:(Z1 w.j.W (w.Q.getD w.D.toNat M)).1=w.j.W.getD ((w.Q.getD w.D.toNat M-4096).toNat+Ld 0) M:=by(unfold Z1;rw[if_pos oq];rfl)
 unfold B4 Bz Zv at *;rw[el]at hd ld b m e hN a c k1 h i l pr⊢;try rw[el]at pl
 rw[show HE (Bq w (w.Q.getD w.D.toNat M) (Zz (Z6 (w.j.W.getD ((w.Q.getD w.D.toNat M-(4096:Int)).toNat+Ld (0:Int)) M)).1) (Zz (Z6 (w.j.W.getD ((w.Q.getD w.D.toNat M-(4096:Int)).toNat+Ld (0:Int)) M)).1).length) (↑(Zz (Z6 (w.j.W.getD ((w.Q.getD w.D.toNat M-(4096:Int)).toNat+Ld (0:Int)) M)).1).length:Int)=Z7.mk (Bq w (w.Q.getD w.D.toNat M) (Zz (Z6 (w.j.W.getD ((w.Q.getD w.D.toNat M-(4096:Int)).toNat+Ld (0:Int)) M)).1) (Zz (Z6 (w.j.W.getD ((w.Q.getD w.D.toNat M-(4096:Int)).toNat+Ld (0:Int)) M)).1).length).j (Bq w (w.Q.getD w.D.toNat M) (Zz (Z6 (w.j.W.getD ((w.Q.getD w.D.toNat M-(4096:Int)).toNat+Ld (0:Int)) M)).1) (Zz (Z6 (w.j.W.getD ((w.Q.getD w.D.toNat M-(4096:Int)).toNat+Ld (0:Int)) M)).1).length).old (Bq w (w.Q.getD w.D.toNat M) (Zz (Z6 (w.j.W.getD ((w.Q.getD w.D.toNat M-(4096:Int)).toNat+Ld (0:Int)) M)).1) (Zz (Z6 (w.j.W.getD ((w.Q.getD w.D.toNat M-(4096:Int)).toNat+Ld (0:Int)) M)).1).length).T (Bq w (w.Q.getD w.D.toNat M) (Zz (Z6 (w.j.W.getD ((w.Q.getD w.D.toNat M-(4096:Int)).toNat+Ld (0:Int)) M)).1) (Zz (Z6 (w.j.W.getD ((w.Q.getD w.D.toNat M-(4096:Int)).toNat+Ld (0:Int)) M)).1).length).Q ((Bq w (w.Q.getD w.D.toNat M) (Zz (Z6 (w.j.W.getD ((w.Q.getD w.D.toNat M-(4096:Int)).toNat+Ld (0:Int)) M)).1) (Zz (Z6 (w.j.W.getD ((w.Q.getD w.D.toNat M-(4096:Int)).toNat+Ld (0:Int)) M)).1).length).D+(1:Int)) (Rep.mk (Bq w (w.Q.getD w.D.toNat M) (Zz (Z6 (w.j.W.getD ((w.Q.getD w.D.toNat M-(4096:Int)).toNat+Ld (0:Int)) M)).1) (Zz (Z6 (w.j.W.getD ((w.Q.getD w.D.toNat M-(4096:Int)).toNat+Ld (0:Int)) M)).1).length).rep.copied (Bq w (w.Q.getD w.D.toNat M) (Zz (Z6 (w.j.W.getD ((w.Q.getD w.D.toNat M-(4096:Int)).toNat+Ld (0:Int)) M)).1) (Zz (Z6 (w.j.W.getD ((w.Q.getD w.D.toNat M-(4096:Int)).toNat+Ld (0:Int)) M)).1).length).rep.kept (Bq w (w.Q.getD w.D.toNat M) (Zz (Z6 (w.j.W.getD ((w.Q.getD w.D.toNat M-(4096:Int)).toNat+Ld (0:Int)) M)).1) (Zz (Z6 (w.j.W.getD ((w.Q.getD w.D.toNat M-(4096:Int)).toNat+Ld (0:Int)) M)).1).length).rep.filled (Bq w (w.Q.getD w.D.toNat M) (Zz (Z6 (w.j.W.getD ((w.Q.getD w.D.toNat M-(4096:Int)).toNat+Ld (0:Int)) M)).1) (Zz (Z6 (w.j.W.getD ((w.Q.getD w.D.toNat M-(4096:Int)).toNat+Ld (0:Int)) M)).1).length).rep.freed (Bq w (w.Q.getD w.D.toNat M) (Zz (Z6 (w.j.W.getD ((w.Q.getD w.D.toNat M-(4096:Int)).toNat+Ld (0:Int)) M)).1) (Zz (Z6 (w.j.W.getD ((w.Q.getD w.D.toNat M-(4096:Int)).toNat+Ld (0:Int)) M)).1).length).rep.cleared ((Bq w (w.Q.getD w.D.toNat M) (Zz (Z6 (w.j.W.getD ((w.Q.getD w.D.toNat M-(4096:Int)).toNat+Ld (0:Int)) M)).1) (Zz (Z6 (w.j.W.getD ((w.Q.getD w.D.toNat M-(4096:Int)).toNat+Ld (0:Int)) M)).1).length).rep.steps+((1:Int)+(↑(Zz (Z6 (w.j.W.getD ((w.Q.getD w.D.toNat M-(4096:Int)).toNat+Ld (0:Int)) M)).1).length:Int))))from by(simp[HE, *];omega)];exact borF [0,1,8002,3,8004,8005] [8002,8004,8005] func131 []<|Fh 52 [.el (wD (w.j.W.getD ((w.Q.getD w.D.toNat M-4096).toNat+Ld 0) M))]<|FlG 28 (!decide (w.D<0)) wD w.Q<|Ffb 30 (O (w.D<0)||O ((w.Q.length:Int)<=w.D))<|Fmq 40 wD w.Q w.D<|Fbq 44 [0,1,8002,3,8004,8005] (@GL w (w.Q.getD w.D.toNat M) (1) aa oq)<|Fo ((0:Int)<=0/\Ld 0<Ld 1)<|Fa (ZR oq:(Lb wD w.j.W)[(w.Q.getD w.D.toNat M-4096).toNat+Ld 0]?=Li (wD (w.j.W.getD ((w.Q.getD w.D.toNat M-4096).toNat+Ld 0) M)))<|Fc 53 (@GH (w.j.W.getD ((w.Q.getD w.D.toNat M-4096).toNat+Ld 0) M) oq oq)<|Fc 60 (@EC ((Z6 (w.j.W.getD ((w.Q.getD w.D.toNat M-4096).toNat+Ld 0) M)).1) aa)<|Fbq 61 [0,1,8002,3,8004,8005] (@GL w (w.Q.getD w.D.toNat M) (Z5 (Z6 (w.j.W.getD ((w.Q.getD w.D.toNat M-4096).toNat+Ld 0) M)).1) aa oq)<|Ffs 69 (!(Z6 (w.j.W.getD ((w.Q.getD w.D.toNat M-4096).toNat+Ld 0) M)).2||Lc)<|Fc 71 (@O7 ((Z6 (w.j.W.getD ((w.Q.getD w.D.toNat M-4096).toNat+Ld 0) M)).1) aa)<|Fl 73 iD (Zz (Z6 (w.j.W.getD ((w.Q.getD w.D.toNat M-(4096:Int)).toNat+Ld (0:Int)) M)).1)<|Fu (@ZfF w (w.Q.getD w.D.toNat M) (Z5 (Z6 (w.j.W.getD ((w.Q.getD w.D.toNat M-4096).toNat+Ld 0) M)).1) (Zz (Z6 (w.j.W.getD ((w.Q.getD w.D.toNat M-4096).toNat+Ld 0) M)).1) aa oq (by grind[HE]) oq oq aa)<|Fi 101 ((Bq w (w.Q.getD w.D.toNat M) (Zz (Z6 (w.j.W.getD ((w.Q.getD w.D.toNat M-4096).toNat+Ld 0) M)).1) (Zz (Z6 (w.j.W.getD ((w.Q.getD w.D.toNat M-4096).toNat+Ld 0) M)).1).length).D+1)<|Fl 110 iD (Zz (Z6 (w.j.W.getD ((w.Q.getD w.D.toNat M-(4096:Int)).toNat+Ld (0:Int)) M)).1)<|Fi 111 (1+(↑(Zz (Z6 (w.j.W.getD ((w.Q.getD w.D.toNat M-4096).toNat+Ld 0) M)).1).length:Int))<|Fi 112 ((Bq w (w.Q.getD w.D.toNat M) (Zz (Z6 (w.j.W.getD ((w.Q.getD w.D.toNat M-4096).toNat+Ld 0) M)).1) (Zz (Z6 (w.j.W.getD ((w.Q.getD w.D.toNat M-4096).toNat+Ld 0) M)).1).length).rep.steps+(1+(↑(Zz (Z6 (w.j.W.getD ((w.Q.getD w.D.toNat M-4096).toNat+Ld 0) M)).1).length:Int))) Fz
def Zbl w(k:HV w)(hs:w.D<w.Q.length)(sc:0<=w.D)(hr:4096<=w.Q.getD w.D.toNat M/\w.Q.getD w.D.toNat M+Zr w.j.W (w.Q.getD w.D.toNat M)<4096+w.j.W.length)(hd:(Z6 (Z1 w.j.W (w.Q.getD w.D.toNat M)).1).2=La)(hN:Mw w (Bz w) (B4 w)) i(b:(Lj (B4 w).length).find? (λk=>O (BW w (Bz w) (B4 w) k≠0))=Li i):BP 131 [.pt 0 0 0] w.ckp (.tu [bL Lc,nI (BW w (Bz w) (B4 w) i)]) (Bq w (Bz w) (B4 w) i).ckq:=by
 have d:=k.mem;obtain⟨h1,h2,h3,h4,h5⟩:=k.ln;have ok:=k.ok;have pr:=(OV (Zv w (Bz w)));have pl:∀x∈B4 w,0<=x/\x+1<Zr w.j.W (Bz w)+1:=λx e=>by(have:=Ad (Zv w (Bz w)) x e;unfold Zv at this;unfold Zr;omega)
 have lr:=BQ w.j.W (w.Q.getD w.D.toNat M);have cf:=BF.1 ok.C;have ld:=EM ok.W (w.Q.getD w.D.toNat M);have a:=GA w (w.Q.getD w.D.toNat M);have f:=Nx w (w.Q.getD w.D.toNat M);have c:=Ij (Z1 w.j.W (w.Q.getD w.D.toNat M)).1 ld.1;have el:(Z1 w.j.W (w.Q.getD w.D.toNat M)).1=w.j.W.getD ((w.Q.getD w.D.toNat M-4096).toNat+Ld 0) M:=by(unfold Z1;rw[if_pos oq];rfl)
 unfold B4 Bz Zv at *;rw[el]at hd ld a f c hN b pr⊢;try rw[el]at pl
 exact borF [0,1,8002,3,8004,8005] [8002,8004,8005] func131 []<|Fh 52 [.el (wD (w.j.W.getD ((w.Q.getD w.D.toNat M-4096).toNat+Ld 0) M))]<|FlG 28 (!decide (w.D<0)) wD w.Q<|Ffb 30 (O (w.D<0)||O ((w.Q.length:Int)<=w.D))<|Fmq 40 wD w.Q w.D<|Fbq 44 [0,1,8002,3,8004,8005] (@GL w (w.Q.getD w.D.toNat M) (1) aa oq)<|Fo ((0:Int)<=0/\Ld 0<Ld 1)<|Fa (ZR oq:(Lb wD w.j.W)[(w.Q.getD w.D.toNat M-4096).toNat+Ld 0]?=Li (wD (w.j.W.getD ((w.Q.getD w.D.toNat M-4096).toNat+Ld 0) M)))<|Fc 53 (@GH (w.j.W.getD ((w.Q.getD w.D.toNat M-4096).toNat+Ld 0) M) oq oq)<|Fc 60 (@EC ((Z6 (w.j.W.getD ((w.Q.getD w.D.toNat M-4096).toNat+Ld 0) M)).1) aa)<|Fbq 61 [0,1,8002,3,8004,8005] (@GL w (w.Q.getD w.D.toNat M) (Z5 (Z6 (w.j.W.getD ((w.Q.getD w.D.toNat M-4096).toNat+Ld 0) M)).1) aa oq)<|Ffs 69 (!(Z6 (w.j.W.getD ((w.Q.getD w.D.toNat M-4096).toNat+Ld 0) M)).2||Lc)<|Fc 71 (@O7 ((Z6 (w.j.W.getD ((w.Q.getD w.D.toNat M-4096).toNat+Ld 0) M)).1) aa)<|Fl 73 iD (Zz (Z6 (w.j.W.getD ((w.Q.getD w.D.toNat M-(4096:Int)).toNat+Ld (0:Int)) M)).1)<|Fu (@Zkg w (w.Q.getD w.D.toNat M) (Z5 (Z6 (w.j.W.getD ((w.Q.getD w.D.toNat M-4096).toNat+Ld 0) M)).1) (Zz (Z6 (w.j.W.getD ((w.Q.getD w.D.toNat M-4096).toNat+Ld 0) M)).1) aa oq (by grind[]) oq oq i aa) Fz
structure HA (w:Z7):Prop where
 k:HV w
 sc:0<=w.D
 hr:w.D<w.Q.length->4096<=w.Q.getD w.D.toNat M/\w.Q.getD w.D.toNat M+Zr w.j.W (w.Q.getD w.D.toNat M)<4096+w.j.W.length
 hd:w.D<w.Q.length->(Z6 (Z1 w.j.W (w.Q.getD w.D.toNat M)).1).2=La
 hN:w.D<w.Q.length->Mw w (Bz w) (B4 w)
def Iz(w:Z7):Nat:=((Lj (B4 w).length).find? (λk=>O (BW w (Bz w) (B4 w) k≠0))).getD 0
def Z9m{w i}(h:(Lj (B4 w).length).find? (λk=>O (BW w (Bz w) (B4 w) k≠0))=Li i):Iz w=i:=by unfold Iz;rw[h];rfl
def Zgu w(k:HV w)(hs:w.D<w.Q.length)(sc:0<=w.D)(hr:4096<=w.Q.getD w.D.toNat M/\w.Q.getD w.D.toNat M+Zr w.j.W (w.Q.getD w.D.toNat M)<4096+w.j.W.length)(hd:(Z6 (Z1 w.j.W (w.Q.getD w.D.toNat M)).1).2=La)(hN:Mw w (Bz w) (B4 w))(a:(Lj (B4 w).length).find? (λk=>O (BW w (Bz w) (B4 w) k≠0))=Li (Iz w)):BP 131 [.pt 0 0 0] w.ckp (.tu [bL Lc,nI (BW w (Bz w) (B4 w) (Iz w))]) (Bq w (Bz w) (B4 w) (Iz w)).ckq:=
 Zbl w k hs sc hr hd hN (Iz w) a
def KI.sd{h T}:∀w n,(∃a,KI h T a w)->∃a,KI h T a (HE w n):=
 λw n ⟨a,k⟩=>⟨a,k.c,k.sp,k.old,k.pl,k.wl,k.pg,k.tk,k.tk0,k.q,k.hd,k.dt,k.lg⟩
section
variable{h:Heap}{T:Nat->List Int}{w:Z7}(c:CZ h T w)(g:Gd h T)
include c g
theorem CZ.dec{q:Int}(b:q∈w.Q):(Z6 (Z1 w.j.W q).1).2=La:=by obtain⟨tq,k⟩:=c.k;rcases k.q q b with⟨i,nt,a,hk,d⟩|⟨i,f,a⟩;rcases k.hd i q a with e|e;rw[e];exact(g.on a).2.2.2.2.2.1;exact absurd e.2.2 d;exact(HT (k.tk i f).2.2.2.2.2.1 a).1
theorem CZ.in1{q j:Int}(d:q∈w.Q)(a:0<=j)(b:j<Zr w.j.W q)(e:(w.fwd (Z1 w.j.W (q+1+j)).1).2.2=0):CZ h T (w.in1 (q+1+j)):=by obtain⟨tq,k⟩:=c.k;exact⟨k.in1 g c.ok c.inv d ⟨a,b⟩ e,(Z7w c.ok _ e).1,(Z6L c.ok c.inv d ⟨a,b⟩ e).1,c.so.fwd c.ok _ e⟩
theorem CZ.inn{q:Int}(a:q∈w.Q){l:List Int}(hl:∀x∈l,0<=x/\x<Zr w.j.W q)(k:Nat)(d:k<=l.length)(b:∀j,j<k->BW w q l j=0):CZ h T (Bq w q l k):=
 ⟨Mt (λw=>∃o,KI h T o w) (λw q j f n ⟨_,k⟩ a i m e=>k.in1 g f n a ⟨i,m⟩ e) c.ok c.inv c.k a hl k d b,(Nh c.ok q l k b).1,(Me c.ok c.inv a hl k d b).1,Mt (λw=>GE w.j.P) (λw q j f n p a i m e=>p.fwd f _ e) c.ok c.inv c.so a hl k d b⟩
theorem CZ.step(e:(ZZ w).2.2=0):CZ h T (ZZ w).1:=
 ⟨P2 (λw=>∃l,KI h T l w) (λw q j a f ⟨_,k⟩ i b d e=>k.in1 g a f i ⟨b,d⟩ e) KI.sd c.ok c.inv c.k e,(Z2B c.ok e).1,(Z3D c.ok c.inv e).1,P2 (λw=>GE w.j.P) (λw q j a f p i b d e=>p.fwd a _ e) (λ_ _ p=>p) c.ok c.inv c.so e⟩
theorem CZ.stp:HA w:=by have sc:=c.ok.sc;have i:w.D<w.Q.length->Bz w∈w.Q:=λb=>BI.2 ⟨w.D.toNat,by omega,rfl⟩;refine⟨c.ck,sc.1,λb=>c.inv.r _ (Lv _ (i b)),λb=>c.dec g (i b),λb=>?_⟩;obtain⟨tq,m⟩:=c.k;have n:=Ad (Zv w (Bz w));have f:=λk d a=>c.inn g (i b) (l:=B4 w) n k d a;refine⟨λk d a=>(f k oq a).fw g (EM (f k oq a).ok.W _),λk d a=>?_,λk d a e=>?_⟩;obtain⟨_,j⟩:=(f k d a).k;exact j.wl.trans m.wl.symm;obtain⟨_,j⟩:=((f k oq a).fwd g e).k;exact j.wl.trans m.wl.symm
theorem CZ.roots{roots}(k:Nat)(a:∀j,j<k->E9 w roots j=0):CZ h T (rootsN w roots k).1:=by
 induction k with|zero=>exact c|succ k b=>exact(b λj hj=>a j oq).fwd g (a k oq)
theorem CZ.rts{roots}(hr:Zy roots):Z2e w roots:=λk hk a=>(c.roots g k a).fw g (Z2x hr k)
theorem CZ.rootsF{roots}(e:(rootsF w roots).2.2=0):CZ h T (rootsF w roots).1:=by
 cases hb:(Lj roots.length).find? (λk=>O (E9 w roots k≠0))with
 |none =>
  have b:∀j,j<roots.length->E9 w roots j=0:=λj d=>by(have:=LA.1 hb j (Lw.2 d);simpa using this)
  have a:Go.Proofs.YtgedmeaemofdkaaGreat.rootsF w roots=((rootsN w roots roots.length).1,(rootsN w roots roots.length).2,0):=by unfold Go.Proofs.YtgedmeaemofdkaaGreat.rootsF;rw[hb]
  rw[a];exact c.roots g _ b
 |some i =>
  have a:Go.Proofs.YtgedmeaemofdkaaGreat.rootsF w roots=(EF,[],E9 w roots i):=by unfold Go.Proofs.YtgedmeaemofdkaaGreat.rootsF;rw[hb]
  rw[a]at e;have:=of_decide_eq_true (Lo.1 hb).1;exact absurd e this
end
def N1(w:Z7):List (Nat×Z4):=[(22009,Bd w.Q),(21009,EK w.T),(20009,Bd w.old),(19009,EE w.j.P),(18009,Bd w.j.W)]
def Ay(w:Z7):Tg:=⟨tm 26 [(2,.pt 8002 0 0),(3,nI 0),(4,.pt 17009 0 0),(5,.fm 131 (.pt 17009 0 0))],(8002,.box 127 zW)::(17009,w.ckB 18009 19009 20009 21009 22009)::N1 w,4⟩
def Zbu{w}(m:(ZZ w).2.1=La):w.D<w.Q.length/\(∀j,j<(B4 w).length->BW w (Bz w) (B4 w) j=0)/\(ZZ w).1=HE (Bq w (Bz w) (B4 w) (B4 w).length) (B4 w).length:=by
 unfold ZZ at m⊢;split at m;rename_i a;rw[if_pos a];cases hb:(Lj (B4 w).length).find? (λk=>O (BW w (Bz w) (B4 w) k≠0))with|none =>refine⟨a,λj b=>?_,rfl⟩;have:=LA.1 hb j (Lw.2 b);simpa using this|some i=>rw[hb]at m;cases m
 cases m
def step_end{w}(e:(ZZ w).2.2=0)(m:(ZZ w).2.1=Lc):¬ w.D<w.Q.length/\(ZZ w).1=w:=by
 unfold ZZ at e m⊢;split at m;rename_i a;rw[if_pos a]at e;cases hb:(Lj (B4 w).length).find? (λk=>O (BW w (Bz w) (B4 w) k≠0))with|none=>rw[hb]at m;cases m|some i =>rw[hb]at e;exact absurd e (of_decide_eq_true (Lo.1 hb).1)
 rename_i a;rw[if_neg a];exact⟨a,rfl⟩
def Z4N w(k:HA w)(m:(ZZ w).2.1=La):CP (Zl f78 0) (Ay w).st .nrm (Ay (ZZ w).1).st:=by obtain⟨a,h0,e⟩:=Zbu m;rw[e];obtain⟨kk,sc,hr,hd,hN⟩:=k;have hr:=hr a;have hd:=hd a;have hN:=hN a;exact sF [(33014,19009),(34014,21009),(35014,22009)] []<|Fbr 14 [17009,18009,19009,20009,21009,22009] (@ZiY w aa aa aa aa aa aa aa) Fz
def Zjv w(k:HA w)(hs:¬ w.D<w.Q.length):CP (Zl f78 0) (Ay w).st .ret (Tg.st ⟨tm 26 [(2,.pt 8002 0 0),(3,nI 0)],(8002,.box 127 (w.ckc 18009 19009 20009 21009 22009))::N1 w,60⟩):=by have ln:=k.k.ln;have sc:=k.sc;exact sF [] []<|Fbq 14 [17009,18009,19009,20009,21009,22009] (@Zc7 w aa aa aa) Fz
def Z09(w:Z7):Prop:=∀k,(∀j,j<k->CN w j=Lc)->HA (Cc w k)/\(ZZ (Cc w k)).2.2=0
def Z5b{w}{j:Nat}(h:CN w j=Lc):(ZZ (Cc w j)).2.1=La:=by simp only[CN,decide_eq_false_iff_not,not_or,LG]at h;simpa using h.2
def Zhn w(R:Z09 w) k(d:(Lj (NV w)).find? (CN w)=Li k):CP (Zk f78 0) (Tg.st ⟨tm 26 [(2,.pt 8002 0 0),(3,nI 0),(4,.pt 17009 0 0),(5,.fm 131 (.pt 17009 0 0))],(8002,.box 127 zW)::(17009,w.ckB 18009 19009 20009 21009 22009)::N1 w,4⟩) .ret (Tg.st ⟨tm 26 [(2,.pt 8002 0 0),(3,nI 0)],(8002,.box 127 ((Bh w).1.ckc 18009 19009 20009 21009 22009))::N1 (Bh w).1,60⟩):=by
 obtain⟨c,h2,l⟩:=Lo.1 d;have a:∀j,j<k->CN w j=Lc:=λj b=>by simpa using l j b
 obtain⟨f,e⟩:=R k a;have m:(ZZ (Cc w k)).2.1=Lc:=by(simp only[CN,decide_eq_true_eq,e]at c;simpa using c)
 obtain⟨n,g⟩:=step_end e m;have h:Bh w=(Cc w k,0):=by rw[Bh,d];simp only[if_pos e];rw[g]
 rw[h];exact Ev (S:=λk=>(Ay (Cc w k)).st) k kr (λj b=>Z4N _ (R j λi hi=>a i oq).1 (Z5b (a j b))) (Zjv _ f n)
def ZgF(w:Z7)(hw:Ba w)(R:Z09 w):GP 78 [w.av] La (.tu [(Bh w).1.av,nI 0]) []:=by
 obtain⟨k,hb⟩:=R7 hw;have ln:=(R 0 λj hj=>absurd hj (L6 j)).1.k.ln;have ln:R4 w:=ln;exact gF [] func78 []<|Fbr 9 [] (@Oj w aa)<|Fu (@Zhn w aa k hb)<|Fa (H7 _:Cd (Lb wD (Bh w).1.j.W))<|Fa (IL _:Cd (Lb Z0.dv (Bh w).1.j.P))<|Fa (H7 _:Cd (Lb wD (Bh w).1.old))<|Fa (AN _:Cd (Lb iD (Bh w).1.T))<|Fa (H7 _:Cd (Lb wD (Bh w).1.Q)) Fz
def ZjP w(k:HA w)(e:(ZZ w).2.2≠0):CP (Zl f78 0) (Ay w).st .ret (Tg.st ⟨tm 26 [(2,.pt 8002 0 0),(3,nI (ZZ w).2.2)],[(8002,.box 127 zW)],60⟩):=by
 have a:w.D<w.Q.length:=by(by_cases q:w.D<w.Q.length;exact q;unfold ZZ at e;rw[if_neg q]at e;exact absurd rfl e)
 cases hb:(Lj (B4 w).length).find? (λk=>O (BW w (Bz w) (B4 w) k≠0))with
 |none=>unfold ZZ at e;rw[if_pos a,hb]at e;exact absurd rfl e
 |some i =>
  have b:(ZZ w).2.2=BW w (Bz w) (B4 w) (Iz w):=by unfold ZZ;rw[if_pos a,hb,Z9m hb]
  rw[b]at e⊢;have c:(Lj (B4 w).length).find? (λk=>O (BW w (Bz w) (B4 w) k≠0))=Li (Iz w):=by rw[hb,Z9m hb]
  obtain⟨kk,sc,hr,hd,hN⟩:=k;have hr:=hr a;have hd:=hd a;have hN:=hN a;exact sF [] []<|Fbr 14 [17009,18009,19009,20009,21009,22009] (@Zgu w aa aa aa aa aa aa aa)<|Ftb 18 (BW w (Bz w) (B4 w) (Iz w) != 0) Fz
def Z3j(w:Z7):Prop:=∀k,(∀j,j<k->CN w j=Lc)->HA (Cc w k)
def Zcf w(R:Z3j w) k(b:(Lj (NV w)).find? (CN w)=Li k)(e:(Bh w).2≠0):CP (Zk f78 0) (Tg.st ⟨tm 26 [(2,.pt 8002 0 0),(3,nI 0),(4,.pt 17009 0 0),(5,.fm 131 (.pt 17009 0 0))],(8002,.box 127 zW)::(17009,w.ckB 18009 19009 20009 21009 22009)::N1 w,4⟩) .ret (Tg.st ⟨tm 26 [(2,.pt 8002 0 0),(3,nI (Bh w).2)],[(8002,.box 127 zW)],60⟩):=by
 obtain⟨h1,h2,h⟩:=Lo.1 b;have a:∀j,j<k->CN w j=Lc:=λj c=>by simpa using h j c
 have f:=R k a;have d:(ZZ (Cc w k)).2.2≠0:=λq=>e (by rw[Bh,b];simp only[if_pos q]);have g:(Bh w).2=(ZZ (Cc w k)).2.2:=by rw[Bh,b];simp only[if_neg d]
 rw[g];exact Ev (S:=λk=>(Ay (Cc w k)).st) k kr (λj c=>Z4N _ (R j λi hi=>a i oq) (Z5b (a j c))) (ZjP _ f d)
def ZgV w(d:Ba w)(R:Z3j w)(e:(Bh w).2≠0):GP 78 [w.av] La (.tu [EF.av,nI (Bh w).2]) []:=by obtain⟨k,b⟩:=R7 d;have a:=(R 0 λj c=>absurd c (L6 j)).k.ln;have a:R4 w:=a;exact gF [] func78 []<|Fbr 9 [] (@Oj w aa)<|Fu (@Zcf w aa k b aa)<|Fnl (Fnl (Fnl (Fnl (Fnl Fz))))
end Go.Proofs.YtgedmeaemofdkaaGreat
namespace Go.Proofs.YtgedmeaemofdkaaGreat
open Go.Sx Go.RowKit
structure Rx (h:Heap) (s k:List Int) (w0:Z7) (g:Bool):Prop where
 b:GP 73 [h.av] Lc (.tu [w0.av,nI 0]) []
 r:GP 74 [h.av,Z2 (s++k)] La (bL g) []
 sl:s.length<=1000
 kl:k.length<=1000
structure Mk (s:List Int) (w0 w1:Z7) (l:List Int) (e:Int):Prop where
 t:GP 77 [w0.av,Z2 s] La (.tu [w1.av,Z2 l,nI e]) []
structure Z0V (w1 w2:Z7) (e:Int):Prop where
 a:GP 78 [w1.av] La (.tu [w2.av,nI e]) []
def clY(h:Heap)(s k:List Int)(w:Z7)(x:AV)(e:Int):Tg:=⟨tm 79 [(1,Z2 s),(2,Z2 k),(3,.pt 5 0 0),(6,.pt 0 0 0),(7,.pt 1 0 0),(8,.pt 2 0 0),(9,.pt 3 0 0),(10,.pt 4 0 0),(11,.pt 24011 0 0)],[(24011,.box 127 w.cells),(0,.box 28 [nI 0,nI 0,.d (.sl 0 []),.d (.sl 0 []),nI 0,nI 0]),(1,.box 25 [x]),(2,.box 25 [.d (.sl 0 [])]),(3,.box 73 [nI 0,nI 0,nI 0,nI 0,nI 0,nI 0]),(4,.box 32 [nI e]),(5,.box 28 h.cells)],60⟩
section
variable{h:Heap}{s k l:List Int}{w0 w1 w2:Z7}{g:Bool}{e:Int}
theorem Zb4(c:Rx h s k w0 g):GP 73 [h.av] Lc (.tu [w0.av,nI 0]) []:=c.b
theorem Z4z(c:Rx h s k w0 g):GP 74 [h.av,Z2 (s++k)] La (bL g) []:=c.r
theorem Z4E(c:Mk s w0 w1 l e):GP 77 [w0.av,Z2 s] La (.tu [w1.av,Z2 l,nI e]) []:=c.t
theorem ZdQ(c:Z0V w1 w2 e):GP 78 [w1.av] La (.tu [w2.av,nI e]) []:=c.a
theorem Z2R(c:Rx h s k w0 g):CP (Cn f35 2) (clX h s k).st .nrm (clY h s k w0 (.d (.sl 0 [])) 0).st:=by exact sF [(16011,24011)] []<|Fc 16 (@Zb4 h s k w0 g aa) Fz
theorem Zb9(c:Rx h s k w0 Lc):CP (Cn f35 3) (clY h s k w0 (.d (.sl 0 [])) 0).st .nrm (pnQ (.d (.sl 0 [])) 19).st:=by have sl:=c.sl;have kl:=c.kl;exact sF [] []<|FcG 26 ((0:Int)==0) (λa=>by(try simp only[bs]at a);exact@Py s k oq oq)<|FcG 27 ((0:Int)==0) (λa=>by(try simp only[bs]at a);exact@Z4z h s k w0 Lc aa) Fz
theorem Z4P(c:Rx h s k w0 La):CP (Cn f35 3) (clY h s k w0 (.d (.sl 0 [])) 0).st .nrm (clY h s k w0 (.d (.sl 0 [])) 0).st:=by have sl:=c.sl;have kl:=c.kl;exact sF [] []<|FcG 26 ((0:Int)==0) (λa=>by(try simp only[bs]at a);exact@Py s k oq oq)<|FcG 27 ((0:Int)==0) (λa=>by(try simp only[bs]at a);exact@Z4z h s k w0 La aa) Fz
theorem pnM w:CP (Cn f35 4) (clY h s k w (.d (.sl 0 [])) 0).st .nrm (clY h s k w (.d (.sl 0 [])) 0).st:=by exact sF [] []<|Fc 31 (@Hw (0) (by rfl)) Fz
theorem pnR(c:Mk s w0 w1 l e):CP (Cn f35 5) (clY h s k w0 (.d (.sl 0 [])) 0).st .nrm (clY h s k w1 (Z2 l) e).st:=by exact sF [] []<|Fc 35 (@Z4E s l w0 w1 e aa) Fz
theorem ZaQ(c:Mk s w0 w1 l e):CP (Cn f35 5) (clY h s k w0 (.d (.sl 0 [])) 0).st .nrm (pnQ (Z2 l) e).st:=by exact sF [] []<|Fc 35 (@Z4E s l w0 w1 e aa) Fz
theorem pnN w:CP (Cn f35 6) (clY h s k w (Z2 l) 0).st .nrm (clY h s k w (Z2 l) 0).st:=by exact sF [] []<|Fc 40 (@Hw (0) (by rfl)) Fz
theorem pnS(c:Z0V w1 w2 e):CP (Cn f35 7) (clY h s k w1 (Z2 l) 0).st .nrm (pnQ (Z2 l) e).st:=by exact sF [] []<|Fc 43 (@ZdQ w1 w2 e aa) Fz
end
end Go.Proofs.YtgedmeaemofdkaaGreat
namespace Go.Proofs.YtgedmeaemofdkaaGreat
open Go.Sx
def Z0O(ws l:List Int)(a:Int)(hw:ws.length<=1048576)(hl:l.length<=1048576)(h0:0<=a/\a<=18446744073709551615)(hn:0<l.length):GP 216 [Z2 ws,uU a,Z2 l] La (.tu [Z2 (ZU ws a l).1,nI (ZU ws a l).2]) []:=by
 by_cases h:4096<=a/\a-4096+l.length<=ws.length;have e7:ZU ws a l=(C6 ws (a-4096).toNat l,0):=by rw[ZU,if_pos h]
 have e1:Zw ws a (l.length:Int)=(a-4096,La):=by(rw[Zw,if_pos oq];simp;omega)
 have e2:=congrArg (λx=>x.1) e1;have e3:=congrArg (λx=>x.2) e1;simp only at e2 e3;have hne:ws≠[]:=SS oq;have hs:C3 (Lb wD ws) (Zw ws a l.length).1.toNat (Lb wD l)=Lb wD (Lf (Zw ws a l.length).1.toNat ws++l++Lg ((Zw ws a l.length).1.toNat+l.length) ws):=by simp[C3]
 rw[e7];exact gF [] func216 [La]<|Fh 27 [.els (Lb wD (Lf (Zw ws a (l.length:Int)).1.toNat ws++l++Lg ((Zw ws a (l.length:Int)).1.toNat+l.length) ws))]<|Fl 15 wD l<|Fc 16 (@Ty ws a ((l.length:Int)) aa aa)<|Ffb 20 (!(Zw ws a (l.length:Int)).2)<|Fc 22 (@Z8T ws aa aa)<|Fa (by(simp only[Lu];omega):0<=(Zw ws a (l.length:Int)).1/\(Zw ws a (l.length:Int)).1<=(↑(Lb wD ws).length:Int))<|Fa (by(simp only[Lu];omega):(Lb wD l).length<=(↑(Lb wD ws).length:Int).toNat-(Zw ws a (l.length:Int)).1.toNat)<|Fa (hs:C3 (Lb wD ws) (Zw ws a (l.length:Int)).1.toNat (Lb wD l)=Lb wD (Lf (Zw ws a (l.length:Int)).1.toNat ws++l++Lg ((Zw ws a (l.length:Int)).1.toNat+l.length) ws))<|Fa (H7 _:Cd (Lb wD (Lf (Zw ws a (l.length:Int)).1.toNat ws++l++Lg ((Zw ws a (l.length:Int)).1.toNat+l.length) ws)))<|Fa (by refine congrArg _ ?_;simp[C6, *]:Lb wD (Lf (Zw ws a (l.length:Int)).1.toNat ws++l++Lg ((Zw ws a (l.length:Int)).1.toNat+l.length) ws)=Lb wD (C6 ws (a-4096).toNat l,0).1)<|Fr (0:Int) Fz;have e7:ZU ws a l=([],2):=by rw[ZU,if_neg h]
 have e3:(Zw ws a (l.length:Int)).2=Lc:=by(unfold Zw;split;simp;omega;rfl)
 rw[e7];exact gF [] func216 []<|Fl 15 wD l<|Fc 16 (@Ty ws a ((l.length:Int)) aa aa)<|Ftb 20 (!(Zw ws a (l.length:Int)).2)<|Fnl Fz
def Zln(h:Heap) ws(e:Int)(hp:h.P.length<=1048576)(he:e=0)(a:h.P≠[]):GP 217 [h.av,Z2 ws,nI e] Lc (.tu [Heap.av ⟨h.C,ws,h.P,h.S,h.B⟩,nI 0]) []:=by exact gF [] func217 []<|Ffb 9 (e != 0)<|Fc 15 (@Zlu h.P aa aa) Fz
def Z9f(h:Heap) ws(e:Int)(he:¬ e=0):GP 217 [h.av,Z2 ws,nI e] Lc (.tu [ZY.av,nI e]) []:=by exact gF [] func217 []<|Ftb 9 (e != 0)<|Fnl (Fnl Fz)
def PC(h:ZB)(hm:0<=h.map/\h.map<=4294967295):GP 215 [h.av] La (.tu [uU (Zu h).1,nI (Zu h).2]) []:=by rcases bb (!ZV h)with hc0|hc0<;>have a:=hc0<;>simp only[bs]at a;rw[show Zu h=((0:Int),(1:Int))from by simp[Zu, *]];exact gF [] func215 []<|Fc 5 (@RS h aa)<|Ft 6 hc0 Fz;have e:=Gq.1 a;obtain⟨g,⟨f,⟨d,⟨b,c⟩⟩⟩⟩:=e;rw[show Zu h=((1:Int)+(4:Int)*h.K+(16:Int)*h.length+(65536:Int)*h.map,(0:Int))from by simp[Zu, *]];exact gF [] func215 []<|Fc 5 (@RS h aa)<|Ff 6 hc0<|Fv 10 h.K<|Fv 14 h.length<|Fv 18 h.map<|Fs 20 (Lb Bu.dv [Bu.mk 2 1,Bu.mk 2 h.K,Bu.mk 12 h.length,Bu.mk 32 h.map])<|Fc 21 (@ZfE h.K h.length h.map oq oq aa) Fz
def ZfZ(h:Heap)(a:Int)(hd:ZB)(hw:Zy h.W)(h0:0<=a/\a<=18446744073709551615)(hm:0<=hd.map/\hd.map<=4294967295):GP 184 [h.av,uU a,hd.av] Lc (.tu [(BC h a hd).1.av,nI (BC h a hd).2]) []:=by
 by_cases hp:Z8 h=La/\(Zu hd).2=0;have ok:=Z9O hp.2;have hz:Z5 hd=hd.length+1:=by rw[Z5,if_pos ok.1]
 have po:=B5 hp.1;have hp1:=hp.1;have hp2:=hp.2;have es:(Le (Z5 hd).toNat 0).set 0 (Zu hd).1=BH hd:=by(rw[hz,BH,show(hd.length+1).toNat=hd.length.toNat+1 from by omega,List.replicate_succ,List.set_cons_zero])
 have el:((Le (Z5 hd).toNat 0).set 0 (Zu hd).1).length=hd.length.toNat+1:=by rw[es];simp[BH]
 have hne:h.P≠[]:=SS oq;by_cases e:(ZU h.W a ((Le (Z5 hd).toNat 0).set 0 (Zu hd).1)).2=0;have e7:BC h a hd=({h with W:=(ZU h.W a ((Le (Z5 hd).toNat 0).set 0 (Zu hd).1)).1},0):=by(rw[es]at e⊢;rw[BC,if_pos ⟨hp.1,ok.1⟩,if_pos e])
 rw[e7];exact gF [] func184 []<|Fh 27 [.els (Lb wD (Le (Z5 hd).toNat 0))]<|Fh 10030 [.els (Lb wD ((Le (Z5 hd).toNat 0).set 0 (Zu hd).1))]<|Fc 14 (@PC hd aa)<|FcG 21 (!(Zu hd).2 != 0) (λhg=>by(try simp only[bs]at hg);exact@Eb h)<|Ffs 23 ((Zu hd).2 != 0||!Z8 h)<|Fc 26 (@EC hd aa)<|Fb (0<=Z5 hd/\Z5 hd<=Z5 hd/\Z5 hd*((↑(nat_lit 7):Int)+1)<=2^48)<|Fa (ms:Le (Z5 hd).toNat [ZD 0]=Lb wD (Le (Z5 hd).toNat 0))<|Fa (by(simp[*];omega):(0:Int)<=0/\Ld 0<(Lb wD (Le (Z5 hd).toNat 0)).length)<|Fa (by(simp[*];omega):Ld 0<(Lb wD (Le (Z5 hd).toNat 0)).length)<|Fa (ms:(Lb wD (Le (Z5 hd).toNat 0)).set (Ld 0) [ZD (Zu hd).1]=Lb wD ((Le (Z5 hd).toNat 0).set 0 (Zu hd).1))<|Fc 36 (@Z0O h.W ((Le (Z5 hd).toNat 0).set 0 (Zu hd).1) a oq oq aa oq)<|Fc 42 (@Zln h ((ZU h.W a ((Le (Z5 hd).toNat 0).set 0 (Zu hd).1)).1) ((ZU h.W a ((Le (Z5 hd).toNat 0).set 0 (Zu hd).1)).2) oq aa aa) Fz;have e7:BC h a hd=(ZY,(ZU h.W a ((Le (Z5 hd).toNat 0).set 0 (Zu hd).1)).2):=by(rw[es]at e⊢;rw[BC,if_pos ⟨hp.1,ok.1⟩,if_neg e])
 rw[e7];exact gF [] func184 []<|Fh 27 [.els (Lb wD (Le (Z5 hd).toNat 0))]<|Fh 10030 [.els (Lb wD ((Le (Z5 hd).toNat 0).set 0 (Zu hd).1))]<|Fc 14 (@PC hd aa)<|FcG 21 (!(Zu hd).2 != 0) (λhg=>by(try simp only[bs]at hg);exact@Eb h)<|Ffs 23 ((Zu hd).2 != 0||!Z8 h)<|Fc 26 (@EC hd aa)<|Fb (0<=Z5 hd/\Z5 hd<=Z5 hd/\Z5 hd*((↑(nat_lit 7):Int)+1)<=2^48)<|Fa (by simp[ZY,Lr,Lq,LC,Lp,wD,iD]:Le (Z5 hd).toNat [ZD 0]=Lb wD (Le (Z5 hd).toNat 0))<|Fa (by(simp[ZY, *];omega):(0:Int)<=0/\Ld 0<(Lb wD (Le (Z5 hd).toNat 0)).length)<|Fa (by(simp[ZY, *];omega):Ld 0<(Lb wD (Le (Z5 hd).toNat 0)).length)<|Fa (by simp[ZY,Lr,Lq,LC,Lp,wD,iD]:(Lb wD (Le (Z5 hd).toNat 0)).set (Ld 0) [ZD (Zu hd).1]=Lb wD ((Le (Z5 hd).toNat 0).set 0 (Zu hd).1))<|Fc 36 (@Z0O h.W ((Le (Z5 hd).toNat 0).set 0 (Zu hd).1) a oq oq aa oq)<|Fc 42 (@Z9f h ((ZU h.W a ((Le (Z5 hd).toNat 0).set 0 (Zu hd).1)).1) ((ZU h.W a ((Le (Z5 hd).toNat 0).set 0 (Zu hd).1)).2) aa) Fz;have e7:BC h a hd=(ZY,1):=Z7h (by
  by_cases q:Z8 h=La;exact .inr λq2=>hp ⟨q,q2⟩;exact .inl (by simpa using q))
 rw[e7];have Q0 {h_ c_ p_} (r_:Fq h_ c_ p_):=Fc 14 (@PC hd aa)<|FcG 21 (!(Zu hd).2 != 0) (λhg=>by(try simp only[bs]at hg);exact@Eb h) r_;rcases bb ((Zu hd).2 != 0||!Z8 h)with hc0|hc0<;>have hc0p:=hc0<;>simp only[bs]at hc0p;exact gF [] func184 [] (Q0 (Ft 23 hc0<|Fnl (Fnl Fz)));obtain⟨hc0pa,hc0pb⟩:=hc0p;exact gF [] func184 (fO 3)<|Fh 27 [.els (Lb wD (Le (Z5 hd).toNat 0))]<|Fh 10030 [.els (Lb wD ((Le (Z5 hd).toNat 0).set 0 (Zu hd).1))] (Q0 (Ff 23 hc0<|Fc 26 (@EC hd aa)<|Fa (by(simp only[ZY] ;exact sj):0<=Z5 hd/\Z5 hd<=Z5 hd/\Z5 hd*((↑(nat_lit 7):Int)+1)<=2^48)<|Fa (by simp[ZY,Lr,Lq,LC,Lp,wD,iD]:Le (Z5 hd).toNat [ZD 0]=Lb wD (Le (Z5 hd).toNat 0))<|Fa (by grind[ZY]:(0:Int)<=0/\Ld 0<(Lb wD (Le (Z5 hd).toNat 0)).length)<|Fa (by grind[ZY]:Ld 0<(Lb wD (Le (Z5 hd).toNat 0)).length)<|Fa (by simp[ZY,Lr,Lq,LC,Lp,wD,iD]:(Lb wD (Le (Z5 hd).toNat 0)).set (Ld 0) [ZD (Zu hd).1]=Lb wD ((Le (Z5 hd).toNat 0).set 0 (Zu hd).1))<|Fc 36 (@Z0O h.W ((Le (Z5 hd).toNat 0).set 0 (Zu hd).1) a (by grind[ZY]) (by grind[ZY]) aa (by grind[ZY]))<|Fc 42 (@Z9f h ((ZU h.W a ((Le (Z5 hd).toNat 0).set 0 (Zu hd).1)).1) ((ZU h.W a ((Le (Z5 hd).toNat 0).set 0 (Zu hd).1)).2) (by grind[ZY]))<|Fr (0:Int)<|Fr (0:Int)<|Fr (Lb wD ZY.W)<|Fr (Lb Z0.dv ZY.P)<|Fr (0:Int)<|Fr (0:Int)<|Fa (by grind[ZY]:(ZU h.W a ((Le (Z5 hd).toNat 0).set 0 (Zu hd).1)).2=1) Fz))
def Gy(h:Heap)(a n:Int):Heap×Int:=if Z8 h=La/\1<=n/\n<=256 then BC h a ⟨0,n-1,0⟩else(ZY,1)
def ZfN{h}{a n:Int}(e:¬ (1<=n/\n<=256)):Gy h a n=(ZY,1):=if_neg (λq=>e q.2)
def Zde{h}{a n:Int}(e:1<=n/\n<=256):Gy h a n=BC h a ⟨0,n-1,0⟩:=by unfold Gy;by_cases b:Z8 h=La;rw[if_pos ⟨b,e⟩];rw[if_neg (λq=>b q.1),BC,if_neg (λq=>b q.1)]
def ZhC(h:Heap)(a n:Int)(hw:Zy h.W)(h0:0<=a/\a<=18446744073709551615)(hn:-9223372036854775808<=n/\n<=9223372036854775807):GP 135 [h.av,uU a,nI n] Lc (.tu [(Gy h a n).1.av,nI (Gy h a n).2]) []:=by by_cases e:1<=n/\n<=256;have b:=Zde (h:=h) (a:=a) e;rw[b];exact gF [] func135 []<|Ffb 13 (O (n<1)||O (256<n))<|Fi 18 (n-1)<|Fc 20 (@ZfZ h a (ZB.mk 0 (n-1) 0) aa aa (by(simp only[bs];omega))) Fz;have b:=ZfN (h:=h) (a:=a) e;rw[b];exact gF [] func135 []<|Ftb 13 (O (n<1)||O (256<n))<|Fnl (Fnl Fz)
def Am(w:Z7)(a:Int):Z7:=if(Z9 w.j a).1.K=0\/a∈w.Q then w else⟨(Gy w.j a (Z5 (Z9 w.j a).1)).1,w.old,w.T,w.Q,w.D,⟨w.rep.copied,w.rep.kept,w.rep.filled+1,w.rep.freed,w.rep.cleared,w.rep.steps⟩⟩
def Eh(w:Z7)(l:List Int):Nat->Z7|0=>w|j+1=>Am (Eh w l j) (l.getD j M)
def fpg(w:Z7)(i:Int):Z7:=if ZJ w i=La then Eh w (Ze w.j i).1 (Ze w.j i).1.length else w
def EP(w:Z7):Nat->Z7|0=>w|i+1=>fpg (EP w i) i
def fiL(w:Z7)(i:Nat):Tg:=⟨tm 90 [(0,.pt 0 0 0),(14,nI w.j.P.length),(15,nI i)],[(0,w.evD)],3⟩
structure FilOk (w:Z7):Prop where
 ww:Zy w.j.W
 wl:w.j.W.length<=4096
 pl:w.j.P.length<=64
 ql:w.Q.length<=1048576
 pr:Z3a w
 fi:0<=w.rep.filled/\w.rep.filled<=1048576
def ZjE w(i:Nat)(k:FilOk w)(hi:i<w.j.P.length)(c:ZJ w i=Lc):CP (Zl f80 0) (fiL w i).st .nrm (fiL w (i+1)).st:=by have pl:=k.pl;have pr:=k.pr;exact sF [] []<|Ftb 16 (O ((i:Int)<(w.j.P.length:Int)))<|Fc 22 (@Z74 w ((i:Int)) aa)<|Ftb 23 (!ZJ w (i:Int))<|Fx 89 i Fz
def fjL(w:Z7)(l:List Int)(i j:Nat):Tg:=⟨tm 90 [(0,.pt 0 0 0),(14,nI w.j.P.length),(15,nI i),(35,Z2 l),(36,nI l.length),(37,nI j)],[(0,w.evD)],9⟩
def Zih w(l:List Int)(i j:Nat)(k:FilOk w)(hl:l.length<=4096)(hj:j<l.length)(ha:0<=l.getD j M/\l.getD j M<=16384)(o:(Z9 w.j (l.getD j M)).2=0)(c:(Z9 w.j (l.getD j M)).1.K=0\/l.getD j M∈w.Q):CP (Zl f80 2) (fjL w l i j).st .nrm (fjL w l i (j+1)).st:=by have ql:=k.ql;have ww:=k.ww;by_cases d:(Z9 w.j (l.getD j M)).1.K=0;let a:=l.getD j M;exact sF [] []<|Ftb 38 (O ((j:Int)<(l.length:Int)))<|Fek 39 wD l (↑j) j<|Fc 47 (@N5 w.j a aa oq)<|Fc 51 (@Hw ((Z9 w.j a).2) aa)<|FcG 61 (!(Z9 w.j a).1.K==0) (λe=>by(try simp only[bs]at e);exact@Ei w.Q a aa)<|Ftb 62 ((Z9 w.j a).1.K==0||O (l.getD j M∈w.Q))<|Fx 88 j Fz;have d2:=c.resolve_left d;let b:=l.getD j M;exact sF [] []<|Ftb 38 (O ((j:Int)<(l.length:Int)))<|Fek 39 wD l (↑j) j<|Fc 47 (@N5 w.j b aa oq)<|Fc 51 (@Hw ((Z9 w.j b).2) aa)<|FcG 61 (!(Z9 w.j b).1.K==0) (λe=>by(try simp only[bs]at e);exact@Ei w.Q b aa)<|Ftb 62 ((Z9 w.j b).1.K==0||O (l.getD j M∈w.Q))<|Fx 88 j Fz
def ZdE w(l:List Int)(i j:Nat)(k:FilOk w)(hl:l.length<=4096)(hj:j<l.length)(ha:0<=l.getD j M/\l.getD j M<=16384)(o:(Z9 w.j (l.getD j M)).2=0)(c:¬ ((Z9 w.j (l.getD j M)).1.K=0\/l.getD j M∈w.Q))(e:(Gy w.j (l.getD j M) (Z5 (Z9 w.j (l.getD j M)).1)).2=0)(pl:(Gy w.j (l.getD j M) (Z5 (Z9 w.j (l.getD j M)).1)).1.P=w.j.P):CP (Zl f80 2) (fjL w l i j).st .nrm (fjL (Am w (l.getD j M)) l i (j+1)).st:=by
 have ql:=k.ql;have ww:=k.ww;have fi:=k.fi;have c1:¬ (Z9 w.j (l.getD j M)).1.K=0:=λq=>c (.inl q);have c2:l.getD j M∉w.Q:=λq=>c (.inr q);have sb:=I8 (Z9 w.j (l.getD j M)).1;have mp:=Iw ww (l.getD j M);have e7:Am w (l.getD j M)=⟨(Gy w.j (l.getD j M) (Z5 (Z9 w.j (l.getD j M)).1)).1,w.old,w.T,w.Q,w.D,⟨w.rep.copied,w.rep.kept,w.rep.filled+1,w.rep.freed,w.rep.cleared,w.rep.steps⟩⟩:=by rw[Am,if_neg c]
 unfold fjL;rw[e7];simp only;rw[pl];exact sF [] []<|Ftb 38 (O ((j:Int)<(l.length:Int)))<|Fek 39 wD l (↑j) j<|Fc 47 (@N5 w.j (l.getD j M) aa oq)<|Fc 51 (@Hw ((Z9 w.j (l.getD j M)).2) aa)<|FcG 61 (!(Z9 w.j (l.getD j M)).1.K==0) (λhg=>by(try simp only[bs]at hg);exact@Ei w.Q (l.getD j M) aa)<|Ffs 62 ((Z9 w.j (l.getD j M)).1.K==0||O (l.getD j M∈w.Q))<|Fc 71 (@EC ((Z9 w.j (l.getD j M)).1) aa)<|Fc 72 (@ZhC w.j (l.getD j M) (Z5 (Z9 w.j (l.getD j M)).1) aa oq oq)<|Fc 78 (@Hw ((Gy w.j (l.getD j M) (Z5 (Z9 w.j (l.getD j M)).1)).2) aa)<|Fi 84 (w.rep.filled+1)<|Fx 88 j Fz
def Zi0 w l i:CP (Zl f80 2) (fjL w l i l.length).st (.ext 2) (Tg.st ⟨tm 90 [(0,.pt 0 0 0),(14,nI w.j.P.length),(15,nI i)],[(0,w.evD)],9⟩):=by exact sF [] []<|Ffb 38 (O ((l.length:Int)<(l.length:Int))) Fz
structure FjOk (w:Z7) (l:List Int):Prop where
 k:∀j,j<=l.length->FilOk (Eh w l j)
 hl:l.length<=4096
 a:∀j,j<l.length->0<=l.getD j M/\l.getD j M<=16384
 o:∀j,j<l.length->(Z9 (Eh w l j).j (l.getD j M)).2=0
 f:∀j,j<l.length->¬ ((Z9 (Eh w l j).j (l.getD j M)).1.K=0\/l.getD j M∈(Eh w l j).Q)->(Gy (Eh w l j).j (l.getD j M) (Z5 (Z9 (Eh w l j).j (l.getD j M)).1)).2=0/\(Gy (Eh w l j).j (l.getD j M) (Z5 (Z9 (Eh w l j).j (l.getD j M)).1)).1.P=(Eh w l j).j.P
 pg:(Eh w l l.length).j.P.length=w.j.P.length
def Zcv w l(i:Nat)(c:FjOk w l)  := Bp (S:=λj=>(fjL (Eh w l j) l i j).st) l.length (by kernel_rfl) (λj a=>by
  by_cases q:(Z9 (Eh w l j).j (l.getD j M)).1.K=0\/l.getD j M∈(Eh w l j).Q
  .have e:Eh w l (j+1)=Eh w l j:=by rw[Eh,Am,if_pos q]
   rw[e];exact Zih _ l i j (c.k j (by omega)) c.hl a (c.a j a) (c.o j a) q
  .obtain⟨b,d⟩:=c.f j a q;exact ZdE _ l i j (c.k j (by omega)) c.hl a (c.a j a) (c.o j a) q b d) (Zi0 (Eh w l l.length) l i)
def ZbD w(i:Nat)(k:FilOk w)(hi:i<w.j.P.length)(c:ZJ w i=La)(e:(Ze w.j i).2=0)(f:FjOk w (Ze w.j i).1):CP (Zl f80 0) (fiL w i).st .nrm (fiL (Eh w (Ze w.j i).1 (Ze w.j i).1.length) (i+1)).st:=by have pl:=k.pl;have pr:=k.pr;have ww:=k.ww;have hl:=f.hl;have pg:=f.pg;unfold fiL;rw[pg];let a:=Ze w.j (i:Int);exact sF [] (fO 8)<|Ftb 16 (O ((i:Int)<(w.j.P.length:Int)))<|Fc 22 (@Z74 w ((i:Int)) aa)<|Ffb 23 (!ZJ w (i:Int))<|Fc 30 (@NS w.j ((i:Int)) aa oq)<|Fc 34 (@Hw (a.2) aa)<|Fl 36 wD a.1<|Fu (@Zcv w (a.1) i aa)<|Fx 89 i<|Fo ((↑(Eh w a.1 a.1.length).j.P.length:Int)=(w.j.P.length:Int)) Fz
def Zep w:CP (Zl f80 0) (fiL w w.j.P.length).st (.ext 0) (Tg.st ⟨tm 90 [(0,.pt 0 0 0)],[(0,w.evD)],3⟩):=by exact sF [] []<|Ffb 16 (O ((w.j.P.length:Int)<(w.j.P.length:Int))) Fz
structure FiOk (w:Z7):Prop where
 k:∀i,i<=w.j.P.length->FilOk (EP w i)
 pg:∀i,i<=w.j.P.length->(EP w i).j.P.length=w.j.P.length
 e:∀i:Nat,i<w.j.P.length->ZJ (EP w i) i=La->(Ze (EP w i).j i).2=0/\FjOk (EP w i) (Ze (EP w i).j i).1
section
variable(w:Z7)(c:FiOk w)
include c
def ZcC  := Bp (S:=λi=>(fiL (EP w i) i).st) w.j.P.length (by kernel_rfl) (λi d=>by
  have k:=c.k i (by omega);have pg:=c.pg i (by omega);by_cases q:ZJ (EP w i) i=La
  .obtain⟨a,b⟩:=c.e i d q;have e:EP w (i+1)=Eh (EP w i) (Ze (EP w i).j i).1 (Ze (EP w i).j i).1.length:=by rw[EP,fpg,if_pos q]
   rw[e];exact ZbD _ i k (by omega) q a b
  .have e:EP w (i+1)=EP w i:=by rw[EP,fpg,if_neg q]
   rw[e];exact ZjE _ i k (by omega) (by simpa using q)) (by
  have:=Zep (EP w w.j.P.length);rw[c.pg _ (Ln _)]at this;exact this)
theorem ZaI:BP 80 [.pt 0 0 0] [w.evD] (.tu []) [(EP w w.j.P.length).evD]:=by have pl:=(c.k 0 (Nat.zero_le _)).pl;have pl:w.j.P.length<=64:=pl;exact lF func80 []<|Fl 14 Z0.dv w.j.P<|Fu (@ZcC w aa) Fz
end
def Zcq{w}(g:Ba w)(h:Bw w){r n:Int}(hr:r∈w.old)(hq:r∉w.Q)(hn:n=Zr w.j.W r+1)(hp:n<=w.j.C.pw)(y:(w.place n).2.2=La):∀x∈w.old++w.Q,(x∈w.Q\/x≠r)->∀m,0<=m->m<=Zr w.j.W x->Z1 ((w.place n).1.copy r (w.place n).2.1 n).j.W (x+m)=Z1 w.j.W (x+m):=by
 have a2:=BQ w.j.W r;obtain⟨i,p,t,s,d,h3,h4,h5,h6,h7,v,e⟩:=Oa g ⟨by omega,hp⟩ y;have hb:=BF.1 g.C;have a5:=g.pl;have hL:=h.L;have a1:(i:Int)*w.j.C.pw+w.j.C.pw<=w.j.C.pw*w.j.C.pg:=by(have:=ED (i:=i) (j:=w.j.C.pg) (pw:=w.j.C.pw) oq oq;rw[Ly w.j.C.pw];exact this)
 have a0:0<=(i:Int)*w.j.C.pw:=LD oq oq;rw[e,v];generalize hu:Cg (w.j.P.getD i M)=u at *;generalize ha:4096+(i:Int)*w.j.C.pw+u=at';have a6:=h.r r (Lk _ hr);have l:=h.f i s (by rcases d with d|d;exact Ls d;exact Lt d.1);rw[hu]at l;obtain⟨m1,m2,m3⟩:=Sl (ws:=w.j.W) (a:=at') (b:=r) (n:=n) oq oq oq;have f:4096<=r/\r<4096+(moveA w.j.W at' r n).1.length:=by omega
 intro x o k m a3 a4;have z:=l x o;simp only[Z7.copy];rw[GJ f ?_,m3 _ oq];intro c;by_cases q:x=r;exact k.elim (λa=>hq (q▸a)) (λa=>a q);have:=h.s x o r (Lk _ hr) oq;omega
def TC{w}(n:Ba w)(h:Bw w) r(e:(w.fwd r).2.2=0):(∃m,(w.fwd r).1.Q=w.Q++m)/\(w.fwd r).1.D=w.D/\∀x∈w.old++w.Q,(x∈w.Q\/x≠r)->∀m,0<=m->m<=Zr w.j.W x->Z1 (w.fwd r).1.j.W (x+m)=Z1 w.j.W (x+m):=by
 unfold Z7.fwd at e⊢;split at e;rename_i c1;rw[if_pos c1];exact⟨⟨[],by simp⟩,rfl,λ_ _ _ _ _ _=>rfl⟩;rename_i c1;rw[if_neg c1];have f:r∉w.Q:=λh=>c1 (Lt h);split at e;simp at e;rename_i c2;rw[if_neg c2];have a:r∈w.old:=LG.1 c2;split at e;rename_i c3;rw[if_pos c3];exact⟨⟨[],by simp⟩,rfl,λ_ _ _ _ _ _=>rfl⟩;rename_i c3;rw[if_neg c3];split at e;simp at e;rename_i c4;rw[if_neg c4];split at e;rename_i g;rw[if_pos g];exact⟨⟨[r],rfl⟩,rfl,λ_ _ _ _ _ _=>rfl⟩;rename_i g;rw[if_neg g];split at e;rename_i d;rw[if_pos d];exact⟨⟨[r],rfl⟩,rfl,λ_ _ _ _ _ _=>rfl⟩;rename_i d;rw[if_neg d];split at e;simp at e;rename_i j;rw[if_neg j];have b:(w.place (Z5 (Zv w r))).2.2=La:=by simpa using j
 have c:=h.z r a;have l:Z5 (Zv w r)<=w.j.C.pw:=by(rw[GA];rcases c with c|c;exact absurd c d;exact c)
 have o:=BQ w.j.W r;obtain⟨i,p,t,p1,p2,p3,p4,p5,p6,p7,k⟩:=OG n ⟨by rw[GA];omega,l⟩ b;refine⟨⟨[(w.place (Z5 (Zv w r))).2.1], ?_⟩, ?_,Zcq n h a f (GA w r) l b⟩;rw[k];rfl;rw[k];rfl
def FD(w:Z7)(F:Int->Prop):Prop:=∀z,F z->(∃q j,q∈w.Q/\0<=j/\j<Zr w.j.W q/\z=q+1+j)/\AJ w (Z1 w.j.W z).1
structure Sm (w v:Z7):Prop where
 q:∃m,v.Q=w.Q++m
 h:∀x∈w.Q,BZ v.j.W x=BZ w.j.W x
def Sm.trans{u v w}(a:Sm u v)(b:Sm v w):Sm u w:=by obtain⟨m,c⟩:=a.q;obtain⟨n,e⟩:=b.q;exact⟨⟨m++n,by rw[e,c,Lm]⟩,λx d=>(b.h x (by rw[c];exact Lk _ d)).trans (a.h x d)⟩
def Sm.mem{w v}(a:Sm w v){x:Int}(c:x∈w.Q):x∈v.Q:=by obtain⟨m,b⟩:=a.q;rw[b];exact Lk _ c
def Sm.len{w v}(a:Sm w v){x:Int}(b:x∈w.Q):Zr v.j.W x=Zr w.j.W x:=congrArg ZB.length (a.h x b)
def Sm.to{w v}(a:Sm w v){x}(b:AJ w x):AJ v x:=b.imp id a.mem
def P5{w}(b:Ba w)(h:Bw w) r(e:(w.fwd r).2.2=0):Sm w (w.fwd r).1:=by have s:=TC b h r e;refine⟨s.1,λx a=>?_⟩;have:=s.2.2 x (Lv _ a) (.inl a) 0 oq (BQ _ _).1;rw[Int.add_zero]at this;rw[BZ,BZ,this]
def FD.fwd{w F}(f:FD w F)(b:Ba w)(h:Bw w) r(e:(w.fwd r).2.2=0):FD (w.fwd r).1 F:=by have s:=TC b h r e;have m:=P5 b h r e;intro z g;obtain⟨⟨q,j,a,c,d,rfl⟩,t⟩:=f z g;refine⟨⟨q,j,m.mem a,c,by rw[m.len a];exact d,rfl⟩, ?_⟩;have:=s.2.2 q (Lv _ a) (.inl a) (1+j) oq oq;rw[<-Int.add_assoc]at this;rw[this];exact m.to t
def Zjj{B w}(l:Ba w)(h:Bw w)(hp:PR B w){F}(f:FD w F){q j:Int}(o:q∈w.Q)(t:0<=j/\j<Zr w.j.W q)(e:(w.fwd (Z1 w.j.W (q+1+j)).1).2.2=0):Sm w (w.in1 (q+1+j))/\(w.in1 (q+1+j)).D=w.D/\FD (w.in1 (q+1+j)) (λz=>F z\/z=q+1+j):=by
 have s:=TC l h _ e;have m:=P5 l h _ e;have y:=f.fwd l h _ e;have to:=Ziq w _ hp e;obtain⟨u,v⟩:=RQ l h _ e;have d:=v.q q o;have a0:=v.l q o;have hr:=u.r q (Lv _ d);have b:4096<=q+1+j/\q+1+j<4096+(w.fwd (Z1 w.j.W (q+1+j)).1).1.j.W.length:=by omega
 have n:∀x∈(w.fwd (Z1 w.j.W (q+1+j)).1).1.Q,x≠q+1+j:=by(intro x p c;have:=u.s q (Lv _ d) x (Lv _ p) oq;omega)
 have hh:∀x∈(w.fwd (Z1 w.j.W (q+1+j)).1).1.Q,BZ (w.in1 (q+1+j)).j.W x=BZ (w.fwd (Z1 w.j.W (q+1+j)).1).1.j.W x:=by(intro x p;simp only[Z7.in1];rw[BZ,BZ,GJ b (n x p)])
 have i:Sm (w.fwd (Z1 w.j.W (q+1+j)).1).1 (w.in1 (q+1+j)):=⟨⟨[],by simp[Z7.in1]⟩,hh⟩;refine⟨m.trans i,s.2.1, ?_⟩;intro z a;have r:(∃k g,k∈w.Q/\0<=g/\g<Zr w.j.W k/\z=k+1+g):=by(rcases a with a|rfl;exact(f z a).1;exact⟨q,j,o,t.1,t.2,rfl⟩)
 obtain⟨k,g,k1,k2,k3,k4⟩:=r;refine⟨⟨k,g,(m.trans i).mem k1,k2,by rw[(m.trans i).len k1];exact k3,k4⟩, ?_⟩;by_cases c:z=q+1+j;subst c;have:(Z1 (w.in1 (q+1+j)).j.W (q+1+j)).1=(w.fwd (Z1 w.j.W (q+1+j)).1).2.1:=by(simp only[Z7.in1];rw[Ab b])
 rw[this];exact i.to to;have:Z1 (w.in1 (q+1+j)).j.W z=Z1 (w.fwd (Z1 w.j.W (q+1+j)).1).1.j.W z:=by(simp only[Z7.in1];rw[GJ b c])
 rw[this];rcases a with a|a;exact i.to (y z a).2;exact absurd a c
section
variable{B:Int}(hB:0<=B)
include hB
theorem Z5W{w}(m:Ba w)(h:Bw w)(p:PR B w){F}(f:FD w F){q:Int}(g:q∈w.Q){l:List Int}(hl:∀x∈l,0<=x/\x<Zr w.j.W q):∀k,k<=l.length->(∀j,j<k->BW w q l j=0)->Sm w (Bq w q l k)/\(Bq w q l k).D=w.D/\FD (Bq w q l k) (λz=>F z\/∃i,i<k/\z=q+1+l.getD i M)
 |0,_,_=>⟨⟨⟨[],by simp[Bq]⟩,λ_ _=>rfl⟩,rfl,λz d=>f z (d.resolve_right (by rintro⟨i,n,_⟩;omega))⟩
 |k+1,hk,he=>by
  obtain⟨a,b,c⟩:=Z5W m h p f g hl k oq (λj o=>he j oq);have ok:=(Nh m q l k (λj o=>he j oq)).1;have iv:=Me m h g hl k oq (λj o=>he j oq);have pr:=Mt (PR B) (λw q j m n h g s t e=>PR.in1 hB w q j m n h g s t e) m h p g hl k oq (λj o=>he j oq);have r:=hl _ (BI.2 ⟨k,by omega,rfl⟩);obtain⟨d1,d2,d3⟩:=Zjj ok iv.1 pr c (a.mem g) (j:=l.getD k M) ⟨r.1,by rw[a.len g];exact r.2⟩ (he k oq);refine⟨a.trans d1,d2.trans b,λz d=>d3 z ?_⟩;rcases d with d|⟨i,n,d⟩
  .exact Ls (Ls d)
  .by_cases u:i=k
   .subst u;exact Lt d
   .exact Ls (Lt ⟨i,by omega,d⟩)
def SD(w:Z7):Prop:=FD w (λz=>∃i j,i<w.D.toNat/\j∈Zz (BZ w.j.W (w.Q.getD i M))/\z=w.Q.getD i M+1+j)
omit hB in
theorem Sm.get{w v}(a:Sm w v){i:Nat}(c:i<w.Q.length):v.Q.getD i M=w.Q.getD i M:=by obtain⟨m,b⟩:=a.q;rw[b,Lh,Lh,LN c]
theorem Z5h{w}(p:Ba w)(h:Bw w)(t:PR B w)(f:SD w)(e:(ZZ w).2.2=0):SD (ZZ w).1:=by
 by_cases o:w.D<w.Q.length;have v:=p.sc;have u:Bz w∈w.Q:=BI.2 ⟨w.D.toNat,by omega,rfl⟩;unfold ZZ at e⊢;rw[if_pos o]at e⊢;cases hb:(Lj (B4 w).length).find? (λk=>O (BW w (Bz w) (B4 w) k≠0))with
 |none =>
  have r:∀j,j<(B4 w).length->BW w (Bz w) (B4 w) j=0:=λj d=>by(have:=LA.1 hb j (Lw.2 d);simpa using this)
  obtain⟨a,b,c⟩:=Z5W hB p h t f u (l:=B4 w) (Ad (Zv w (Bz w))) (B4 w).length (Ln _) r;intro z x;obtain⟨i,j,m,d,rfl⟩:=x;simp only[HE]at m d⊢;rw[b]at m;have g:=a.get (show i<w.Q.length by omega);have s:w.Q.getD i M∈w.Q:=BI.2 ⟨i,by omega,rfl⟩;rw[g,a.h _ s]at d;rw[g];refine c _ ?_;by_cases q:i=w.D.toNat
  subst q;obtain⟨n,y,n2⟩:=BI.1 d;exact Lt ⟨n,y,by rw[<-n2];rfl⟩;exact Ls ⟨i,j,by omega,d,rfl⟩
 |some k =>simp only[hb]at e;have:=(Lo.1 hb).1;simp[e]at this
 have e:ZZ w=(w,Lc,0):=by rw[ZZ,if_neg o]
 rw[e];exact f
theorem Z4m{w}(a:Ba w)(h:Bw w)(d:PR B w)(f:SD w):∀k,(∀j,j<k->CN w j=Lc)->SD (Cc w k)
 |0,_=>f
 |k+1,hh=>by
  have o:=Z4m a h d f k (λj b=>hh j oq);have ok:=(Io a k (λj b=>hh j oq)).1;have iv:=(AY a h k (λj b=>hh j oq)).1;have pr:=Oy (PR B) (λw q j a l h m g i e=>PR.in1 hB w q j a l h m g i e) (λw n h=>⟨⟨h.tab.pt,h.tab.tk,h.tab.pin⟩,h.rt.q,h.rt.t⟩) a h d k (λj b=>hh j oq);have c:=hh k oq;simp only[CN,decide_eq_false_iff_not,not_or,LG]at c;exact Z5h hB ok iv pr o c.1
theorem Zjf{w}(a:Ba w)(h:Bw w)(l:PR B w)(f:SD w)(e:(Bh w).2=0):SD (Bh w).1/\(Bh w).1.D=(Bh w).1.Q.length:=by
 obtain⟨k,i⟩:=R7 a;obtain⟨d,h2,r⟩:=Lo.1 i;have b:∀j,j<k->CN w j=Lc:=λj t=>by simpa using r j t
 unfold Bh at e⊢;rw[i]at e⊢;simp only at e⊢;split at e;rename_i c;rw[if_pos c];have ok:=(Io a k b).1;have iv:=(AY a h k b).1;have pr:=Oy (PR B) (λw q j a s h u b d e=>PR.in1 hB w q j a s h u b d e) (λw n h=>⟨⟨h.tab.pt,h.tab.tk,h.tab.pin⟩,h.rt.q,h.rt.t⟩) a h l k b;refine⟨Z5h hB ok iv pr (Z4m hB a h l f k b) c, ?_⟩;simp only[CN,decide_eq_true_eq]at d;have g:(ZZ (Cc w k)).2.1=Lc:=d.resolve_left (λq=>q c);have v:=ok.sc;by_cases o:(Cc w k).D<(Cc w k).Q.length;exfalso;unfold ZZ at g c;rw[if_pos o]at g c;cases hb2:(Lj (B4 (Cc w k)).length).find? (λm=>O (BW (Cc w k) (Bz (Cc w k)) (B4 (Cc w k)) m≠0))with|none =>rw[hb2]at g;simp at g|some m =>simp only[hb2]at c;have:=(Lo.1 hb2).1;simp[c]at this
 have p:ZZ (Cc w k)=(Cc w k,Lc,0):=by rw[ZZ,if_neg o]
 rw[p];simp only;omega;rename_i c;exact absurd e c
theorem ZfI{h:Heap}{s}(hw:Zy h.W)(hp:Z8 h=La)(hb:∀p∈h.P,p.N<=B)(e:(rootsF (Zs h) s).2.2=0)(e2:(Bh (rootsF (Zs h) s).1).2=0):SD (Bc h s)/\(Bc h s).D=(Bc h s).Q.length:=by have wb:=R8 hw hp;have hi:=RZ hp;have ho:=Aj (roots:=s) wb hi e;have pr:=Z34 (PR B) (λw r hw hi h e=>PR.fwd hB w r hw hi h e) (roots:=s) wb hi ⟨Z0L hp hb,Z5S hp⟩ e;have s0:=Z34 (λw=>w.D=0) (λw r hw hi h e=>(TC hw hi r e).2.1.trans h) (roots:=s) wb hi rfl e;exact Zjf hB ho.1 ho.2.1 pr (λz hz=>by obtain⟨i,j,q,_⟩:=hz;rw[s0]at q;simp at q) e2
end
def Nm(w:Z7)(x:Int):Prop:=ZJ w (Z3 w.j.C x).1=La/\x∉w.Q
def SH(n:Int)(a x:Int):Int:=if a=x then 1+16*n else 0
def Zdr{n:Int}(h:0<=n/\n<=255):Z6 (1+16*n)=(⟨0,n,0⟩,La):=by have a:ZV ⟨0,n,0⟩=La:=Gq.2 ⟨by simp,by simp,h.1,h.2,by simp⟩;have:=decode_encode a pq;rw[DC h]at this;exact this
def ZjB{n:Int}(h:0<=n/\n<=255){ws:List Int}{a x:Int}(hx:4096<=x/\x+n<4096+ws.length)(ha:x<=a/\a<=x+n):(Z1 (ZU ws x (BH ⟨0,n,0⟩)).1 a).1=SH n a x:=by
 have hl:(BH ⟨0,n,0⟩).length=n.toNat+1:=by simp[BH]
 rw[Dc oq oq];unfold SH;by_cases c:a=x;subst c;simp[BH,DC h];rw[if_neg c,BH,show(a-x).toNat=(a-x-1).toNat+1 by omega];simp[Lh,LU];split<;>rfl
structure FL (v:Z7) (ws:List Int) (k:Nat):Prop where
 l:ws.length=v.j.W.length
 h:∀x∈v.old,Zr ws x=Zr v.j.W x
 s:∀a,Z1 ws a=Z1 v.j.W a\/∃x∈v.old,Nm v x/\x<=a/\a<=x+Zr v.j.W x/\(Z1 ws a).1=SH (Zr v.j.W x) a x
 f:∀j,j<k->Nm v (v.old.getD j M)->∀a,v.old.getD j M<=a->a<=v.old.getD j M+Zr v.j.W (v.old.getD j M)->(Z1 ws a).1=SH (Zr v.j.W (v.old.getD j M)) a (v.old.getD j M)
def ML{v:Z7}(hw:FOk v)(hi:Bw v):∀k,k<=v.old.length->FL v (C9 v k).j.W k
 |0,_=>⟨rfl,λ_ _=>rfl,λ_=>Ls rfl,λj hj=>by omega⟩
 |k+1,hk=>by
  have ih:=ML hw hi k oq;obtain⟨i0,i1,i2,i3,i4,i5,i6,i7,i8,i9,i10,i11⟩:=HU v hw k;have hm:v.old.getD k M∈v.old:=BI.2 ⟨k,by omega,rfl⟩;have hr:=hi.r _ (Lk _ hm);have hn:=BQ v.j.W (v.old.getD k M);have hprom:ZJ (C9 v k) (Z3 (C9 v k).j.C (v.old.getD k M)).1=ZJ v (Z3 v.j.C (v.old.getD k M)).1:=by
   unfold ZJ;rw[i1,i2,i3,i6]
  by_cases c:Nm v (v.old.getD k M)
  .have e:(C9 v (k+1)).j.W=(ZU (C9 v k).j.W (v.old.getD k M) (BH ⟨0,Zr v.j.W (v.old.getD k M),0⟩)).1:=by
    show(Gz (C9 v k) (v.old.getD k M)).j.W=_;rw[Gz,hprom,i7,if_pos (show ZJ v (Z3 v.j.C (v.old.getD k M)).1=La/\v.old.getD k M∉v.Q from c)];simp only;rw[<-ih.h _ hm];rfl
   rw[e];have hl:=ih.l;generalize hx:v.old.getD k M=x at *;have hin:4096<=x/\x+Zr v.j.W x<4096+(C9 v k).j.W.length:=by omega
   have ho:(BH ⟨0,Zr v.j.W x,0⟩).length=(Zr v.j.W x).toNat+1:=by simp[BH]
   have win:=λa ha=>ZjB hn (ws:=(C9 v k).j.W) (a:=a) hin ha;have wout:∀a,a<x\/x+Zr v.j.W x<a->Z1 (ZU (C9 v k).j.W x (BH ⟨0,Zr v.j.W x,0⟩)).1 a=Z1 (C9 v k).j.W a:=λa ha=>AW oq oq;have sep:=λy hy=>hi.s x (Lk _ hm) y (Lk _ hy);have sep2:=λy hy=>hi.s y (Lk _ hy) x (Lk _ hm);refine⟨?_, ?_, ?_, ?_⟩
   .unfold ZU;rw[if_pos oq];exact(Nf oq).trans hl
   .intro y hy;by_cases q:y=x
    .subst q;have:=win y oq;rw[Zr,this,SH,if_pos rfl,Zdr hn]
    .have s1:=sep y hy;have s2:=sep2 y hy;have:=BQ v.j.W y;rw[Zr,wout y oq];exact ih.h y hy
   .intro a;by_cases q:x<=a/\a<=x+Zr v.j.W x
    .exact Lt ⟨x,hm,c,q.1,q.2,win a q⟩
    .rw[wout a oq];exact ih.s a
   .intro j hj hf a h1 h2;by_cases q:v.old.getD j M=x
    .rw[q]at h1 h2⊢;exact win a ⟨h1,h2⟩
    .have hjk:j<k:=by
      by_cases q2:j=k
      .subst q2;exact absurd hx q
      .omega
     have hmj:v.old.getD j M∈v.old:=BI.2 ⟨j,by omega,rfl⟩;have s1:=sep _ hmj;have s2:=sep2 _ hmj;have:=BQ v.j.W (v.old.getD j M);rw[wout a oq];exact ih.f j hjk hf a h1 h2
  .have e:C9 v (k+1)=C9 v k:=by
    show Gz (C9 v k) (v.old.getD k M)=_;rw[Gz,hprom,i7,if_neg (show¬ (ZJ v (Z3 v.j.C (v.old.getD k M)).1=La/\v.old.getD k M∉v.Q)from c)]
   rw[e];refine⟨ih.l,ih.h,ih.s,λj hj hf=>?_⟩;by_cases q:j=k
   .subst q;exact absurd hf c
   .exact ih.f j oq hf
def Z4e{c:B2}{s}{l:List Z0}{ws:List Int}(b:0<=c.pw)(hl:(ws.length:Int)=c.pw*l.length):∀k,k<=l.length->(Ec c.pw s l ws k).length=ws.length/\∀(i:Nat) (o:Int),i<l.length->0<=o->o<c.pw->Z1 (Ec c.pw s l ws k) (4096+i*c.pw+o)=if i<k/\Ez s (l.getD i M)then(0,0)else Z1 ws (4096+i*c.pw+o)
 |0,_=>⟨rfl,λi o _ _ _=>by rw[if_neg oq];rfl⟩
 |k+1,hk=>by
  obtain⟨n,p⟩:=Z4e (s:=s) b hl k oq;unfold Ec;by_cases d:Ez s (l.getD k M)
  .rw[if_pos d];have h:=ED (i:=k) (j:=l.length) (pw:=c.pw) oq b;have v:0<=(k:Int)*c.pw:=LD oq b;rw[Ly (l.length:Int)]at h;have r:(Le c.pw.toNat (0:Int)).length=c.pw.toNat:=LB;have en:((k*c.pw.toNat:Nat):Int)=k*c.pw:=by rw[Int.natCast_mul,Int.toNat_of_nonneg b]
   have e:C6 (Ec c.pw s l ws k) (k*c.pw.toNat) (Le c.pw.toNat 0)=(ZU (Ec c.pw s l ws k) (4096+k*c.pw) (Le c.pw.toNat 0)).1:=by
    unfold ZU;rw[if_pos oq];simp only;congr 1;omega
   refine⟨?_, ?_⟩
   .rw[Nf oq];exact n
   .intro i o g f m;rw[e];by_cases q:i=k
    .subst q;rw[Dc oq oq,if_pos ⟨by omega,d⟩];simp[Lh,LU];split<;>rfl
    .have w:4096+(i:Int)*c.pw+o<4096+k*c.pw\/4096+k*c.pw+c.pw<=4096+(i:Int)*c.pw+o:=by
      rcases Nat.lt_or_gt_of_ne q with q|q
      .have:=ED (i:=i) (j:=k) (pw:=c.pw) oq b;omega
      .have:=ED (i:=k) (j:=i) (pw:=c.pw) oq b;omega
     rw[AW oq oq,p i o g f m];by_cases a:i<k/\Ez s (l.getD i M)
     .rw[if_pos a,if_pos ⟨by omega,a.2⟩]
     .rw[if_neg a,if_neg (λt=>a ⟨by omega,t.2⟩)]
  .rw[if_neg d];refine⟨n,λi o g f m=>?_⟩;rw[p i o g f m];by_cases a:i<k/\Ez s (l.getD i M)
   .rw[if_pos a,if_pos ⟨by omega,a.2⟩]
   .rw[if_neg a,if_neg];rintro⟨t,u⟩;by_cases x:i=k
    .subst x;exact d u
    .exact a ⟨by omega,u⟩
def Ci(T:Nat->List Int):Nat->List Int|0=>[]|i+1=>Ci T i++T i
def Z0h T{i:Nat}:∀{n:Nat},i<=n->∃R,Ci T n=Ci T i++R
 |0,h=>⟨[],by rw[show i=0 by omega];rfl⟩
 |n+1,h=>by
  by_cases q:i=n+1
  .subst q;exact⟨[],by simp⟩
  .obtain⟨R,e⟩:=Z0h T (i:=i) (n:=n) oq;exact⟨R++T n,by rw[Ci,e,Lm]⟩
def Z5O{h T}(g:Gt h T):∀f i,i+f=h.P.length->Ci T i++(Ce h f i).1=Ci T h.P.length
 |0,i,e=>by rw[<-e];simp[Ce]
 |f+1,i,e=>by
  have a:=Z5O g f (i+1) oq;have s:=(g.starts f (i+1) oq).1;unfold Ce;rw[g.page (show i<h.P.length by omega),if_pos rfl,if_pos s,<-a,Ci,Lm]
structure FV (h:Heap) (T:Nat->List Int) (v:Z7):Prop where
 g:Gd h T
 fo:FOk v
 iv:Bw v
 pr:Z8 v.j=La
 c:v.j.C=h.C
 pl:v.j.P.length=h.P.length
 ol:v.old=(Zt h).1
 so:GE v.j.P
 r:v.rep.filled=0
 pm:∀i:Nat,ZJ v i=La->(h.P.getD i M).K=1/\(v.j.P.getD i M).U=(h.P.getD i M).U/\∀x∈T i,(Z1 v.j.W x).1=(Z1 h.W x).1
def wq(h:Heap)(v:Z7)(Q:List Int):Z7:=C9 v (Q.filter (CM h)).length
def Z0U{v}(d:FOk v)(b:Bw v){a:Int}:∀k,k<=v.old.length->(∀j,j<k->Nm v (v.old.getD j M)->a<v.old.getD j M\/v.old.getD j M+Zr v.j.W (v.old.getD j M)<a)->Z1 (C9 v k).j.W a=Z1 v.j.W a
 |0,_,_=>rfl
 |k+1,hk,hh=>by
  have r:=Z0U d b k oq λj hj=>hh j oq;have f:=ML d b k oq;obtain⟨i0,i,n,o,i4,i5,p,q,i8,i9,l,m⟩:=HU v d k;have g:v.old.getD k M∈v.old:=BI.2 ⟨k,by omega,rfl⟩;have hr:=b.r _ (Lk _ g);have hn:=BQ v.j.W (v.old.getD k M);have h:=hh k oq;have fl:=f.l;rw[<-r];show Z1 (Gz (C9 v k) (v.old.getD k M)).j.W a=_;unfold Gz;split
  .rename_i c;have h:=h (by unfold Nm ZJ at *;rw[i,n,o,p,q]at c;exact c);have e:(Zv (C9 v k) (v.old.getD k M)).length=Zr v.j.W (v.old.getD k M):=f.h _ g;have ho:(BH ⟨0,Zr v.j.W (v.old.getD k M),0⟩).length=(Zr v.j.W (v.old.getD k M)).toNat+1:=by simp[BH]
   simp only[e];exact AW oq oq
  .rfl
section
variable{h:Heap}{T:Nat->List Int}{v:Z7}(f:FV h T v)
include f
theorem FV.all:(Cx h).1=Ci T h.P.length:=by
 have e:Cx h=Ce h h.P.length 0:=by rw[Cx,if_pos f.g.p]
 rw[e,<-Z5O f.g.gt h.P.length 0 oq];simp[Ci]
theorem FV.old:v.old=(Ci T h.P.length).filter (CM h):=by rw[f.ol,Zt,f.all]
theorem FV.is{Q R:List Int}(e:Ci T h.P.length=Q++R):(Q.filter (CM h)).length<=v.old.length:=by rw[f.old,e,Lz,LW];omega
theorem FV.proper{Q R:List Int}(e:Ci T h.P.length=Q++R):Z8 (wq h v Q).j=La:=by have l:=(ML f.fo f.iv _ (f.is e)).l;obtain⟨i0,a,d,g,i,i5,i6,i7,i8,i9,b,c⟩:=HU v f.fo (Q.filter (CM h)).length;have p:=HD.1 f.pr;refine HD.2 ?_;unfold wq;rw[a,d,g,i,l];exact p
theorem FV.prom{Q}(i:Int):ZJ (wq h v Q) i=ZJ v i:=by obtain⟨i0,i1,c,d,i4,i5,e,i7,i8,i9,a,b⟩:=HU v f.fo (Q.filter (CM h)).length;unfold ZJ wq;rw[c,d,e]
theorem FV.filOk{Q R:List Int}(e:Ci T h.P.length=Q++R):FilOk (wq h v Q):=by obtain⟨a,i1,d,g,i4,i5,i6,i7,i8,i9,b,c⟩:=HU v f.fo (Q.filter (CM h)).length;have q:=f.is e;have ol:=f.fo.ol;have r:=f.r;have p:=HD.1 f.pr;refine⟨a.W,a.wl,a.pl, ?_,⟨a.tl, ?_, ?_, ?_⟩, ?_⟩;exact LS a.ql dd;exact LS a.pl dd;unfold wq;rw[g];exact p.2.2.2.1;unfold wq;rw[d];exact f.so;unfold wq;omega
section
variable{Q R:List Int}{y:Int}{i:Nat}(e:Ci T h.P.length=Q++y::R)(hy:y∈T i)
include e hy
theorem FV.nxt:wq h v (Q++[y])=if Gl h.W y=0 then wq h v Q else Gz (wq h v Q) y:=by
 have o:CM h y=O (Gl h.W y≠0):=by rw[CM,f.g.at' hy];rfl
 unfold wq;rw[Lz,LW];by_cases c:Gl h.W y=0;rw[if_pos c];simp[o,c];rw[if_neg c];have a:([y].filter (CM h)).length=1:=by simp[o,c]
 have b:v.old.getD (Q.filter (CM h)).length M=y:=by(rw[f.old,e];simp[Lz,List.filter_cons,o,c])
 rw[a,C9,b]
theorem FV.skip(d:ZJ v i=Lc):wq h v (Q++[y])=wq h v Q:=by rw[f.nxt e hy];split;rfl;have a:=(HU v f.fo (Q.filter (CM h)).length).2.1;rw[Gz,if_neg];rintro⟨c,_⟩;have b:(wq h v Q).j.C=h.C:=a.trans f.c;rw[b,f.g.ofx hy,f.prom]at c;rw[d]at c;cases c
theorem FV.hd(pm:ZJ v i=La):Z1 (wq h v Q).j.W y=Z1 v.j.W y:=by
 refine Z0U f.fo f.iv _ (f.is e) λj d m=>?_;have b:=Pn h;rw[f.all,e,LR]at b;have l:v.old.getD j M∈Q:=by(rw[f.old,e,Lz,Lh,LN d,<-Lh];exact(L1.1 (BI.2 ⟨j,d,rfl⟩)).1)
 have lt:=b.2.2 _ l y pq;have k:v.old.getD j M∈(Zt h).1:=by(rw[<-f.ol];exact BI.2 ⟨j,by have:=f.is e;omega,rfl⟩)
 obtain⟨g,a,_⟩:=(f.g.objs.2 _).1 k;have c:=m.1;rw[f.c,f.g.ofx a]at c;have:=f.g.sep a hy lt;rw[(Hb ((f.pm g c).2.2 _ a)).2.1];exact .inr this
theorem FV.step(pm:ZJ v i=La):Z9 (wq h v Q).j y=(BZ h.W y,0)/\wq h v (Q++[y])=Am (wq h v Q) y/\(Gy (wq h v Q).j y (Z5 (BZ h.W y))).2=0/\(Gy (wq h v Q).j y (Z5 (BZ h.W y))).1.P=(wq h v Q).j.P:=by
 obtain⟨i0,i1,i2,i3,i4,i5,i6,i7,i8,i9,i10,i11⟩:=HU v f.fo (Q.filter (CM h)).length;have p:=f.pm i pm;have on:=f.g.on hy;have hd:=f.hd e hy pm;have e0:(Z1 (wq h v Q).j.W y).1=(Z1 h.W y).1:=by rw[hd];exact p.2.2 y hy
 obtain⟨o1,o2,o3,o4,o5⟩:=Hb e0;have pr:=f.proper e;have ec:(wq h v Q).j.C=h.C:=i1.trans f.c;have ep:(wq h v Q).j.P=v.j.P:=i2;have b:ZN (wq h v Q).j i=ZN h i:=by rw[ZN,ec];rfl
 have k:=pm;unfold ZJ at k;simp only[decide_eq_true_eq,LL]at k;have at1:Z9 (wq h v Q).j y=(BZ h.W y,0):=by(rw[<-o4];exact at_one pr (i:=i) (by rw[ep];omega) (by rw[ep];exact k.2.2.1) (by rw[b];exact on.2.2.1) (by rw[b,o2,ep,p.2.1];exact on.2.2.2.2.1) (o1 on.2.2.2.2.2.1))
 have hr:=BQ h.W y;have sz:=NX h.W y;have l:(wq h v Q).j.W.length=v.j.W.length:=(ML f.fo f.iv _ (f.is e)).l;have po:=B5 f.g.p;have pv:=B5 f.pr;have on4:=on.2.2.2.1;have pp:=EL f.g.p on.1;have hv:ZV ⟨0,Zr h.W y,0⟩=La:=Gq.2 ⟨by simp,by simp,by simp;omega,by simp;omega,by simp⟩;have wo:(ZU (wq h v Q).j.W y (BH ⟨0,Zr h.W y,0⟩)).2=0:=by
  unfold ZU;rw[if_pos];have ho:(BH ⟨0,Zr h.W y,0⟩).length=(Zr h.W y).toNat+1:=by simp[BH]
  have ms:=ED (i:=i) (j:=h.P.length) (pw:=h.C.pw) (by have:=on.1;omega) oq;have h0:0<=(i:Int)*h.C.pw:=LD oq oq;have cm:=Ly (h.P.length:Int) h.C.pw;have L:=f.iv.L;rw[f.c]at L;have pp1:=pp.1;have on5:=on.2.2.2.2.1;have on3:=on.2.2.1;have e8:(h.P.length:Int)=h.C.pg:=po.2.2.2.2.2.2.2.1;rw[e8]at ms cm;unfold ZN at on3 on4 on5;omega
 have fh:Gy (wq h v Q).j y (Z5 (BZ h.W y))=({ (wq h v Q).j with W:=(ZU (wq h v Q).j.W y (BH ⟨0,Zr h.W y,0⟩)).1},0):=by(rw[Gy,sz,if_pos ⟨pr,by omega,by omega⟩,show Zr h.W y+1-1=Zr h.W y by omega,BC,if_pos ⟨pr,hv⟩,if_pos wo])
 refine⟨at1, ?_,by rw[fh],by rw[fh]⟩;rw[f.nxt e hy,Am,at1,fh];simp only;by_cases c:Gl h.W y=0;rw[if_pos c,if_pos (.inl c)];rw[if_neg c,Gz,ec,f.g.ofx hy,f.prom,pm];have c':¬ (BZ h.W y).K=0:=c;have hw:(Zv (wq h v Q) y).length=Zr h.W y:=o2;by_cases d:y∈(wq h v Q).Q;rw[if_neg (λq=>q.2 d),if_pos (.inr d)];rw[if_pos ⟨rfl,d⟩,if_neg (λq=>q.elim c' d),hw]
end
theorem FV.page{i:Nat}{R:List Int}(pm:ZJ v i=La):∀j,j<=(T i).length->Ci T h.P.length=Ci T i++T i++R->Eh (wq h v (Ci T i)) (T i) j=wq h v (Ci T i++(T i).take j)
 |0,_,_=>by simp[Eh]
 |j+1,hj,e=>by
  have b:=FV.page pm j oq e;have m:(T i).getD j M∈T i:=BI.2 ⟨j,by omega,rfl⟩;have s:T i=(T i).take j++(T i).getD j M::(T i).drop (j+1):=by
   have:=LF j (T i);rw[LM oq]at this;rw[Lh,Ll oq];exact this.symm
  have a:Ci T h.P.length=(Ci T i++(T i).take j)++(T i).getD j M::((T i).drop (j+1)++R):=by
   rw[e];conv=>lhs;rw[s]
   simp
  rw[Eh,b,TI oq,<-Lm,(f.step a m pm).2.1]
theorem FV.pass{i:Nat}{R:List Int}(a:ZJ v i=Lc):∀j,j<=(T i).length->Ci T h.P.length=Ci T i++T i++R->wq h v (Ci T i++(T i).take j)=wq h v (Ci T i)
 |0,_,_=>by simp
 |j+1,hj,e=>by
  have c:=FV.pass a j oq e;have m:(T i).getD j M∈T i:=BI.2 ⟨j,by omega,rfl⟩;have s:T i=(T i).take j++(T i).getD j M::(T i).drop (j+1):=by
   have:=LF j (T i);rw[LM oq]at this;rw[Lh,Ll oq];exact this.symm
  have b:Ci T h.P.length=(Ci T i++(T i).take j)++(T i).getD j M::((T i).drop (j+1)++R):=by
   rw[e];conv=>lhs;rw[s]
   simp
  rw[TI oq,<-Lm,f.skip b m a,c]
theorem FV.tl{i:Nat}{R:List Int}(n:i<h.P.length)(e:Ci T h.P.length=Ci T i++T i++R)(pm:ZJ v i=La):Ze (wq h v (Ci T i)).j i=(T i,0):=by
 obtain⟨i0,u,z,i3,i4,i5,i6,i7,i8,i9,w,y⟩:=HU v f.fo ((Ci T i).filter (CM h)).length;have p:=f.pm i pm;have k:=pm;unfold ZJ at k;simp only[decide_eq_true_eq,LL]at k;have t:=(f.g.t1 i n p.1).1;have m:(wq h v (Ci T i)).j.P=v.j.P:=z;have b:ZN (wq h v (Ci T i)).j i=ZN h i:=by rw[ZN,show(wq h v (Ci T i)).j.C=h.C from u.trans f.c];rfl
 have d:Ci T h.P.length=Ci T i++(T i++R):=by rw[e,Lm]
 refine Z9Y (f.proper d) (by rw[m,f.pl];exact n) (by rw[m];exact k.2.2.1) ?_;rw[b,m,p.2.1];refine Tm t λx g=>?_;obtain⟨j,j1,j2⟩:=BI.1 g;have c:=Pn h;have r:Z1 (wq h v (Ci T i)).j.W x=Z1 v.j.W x:=by
  refine Z0U f.fo f.iv _ (f.is d) λj q tf=>?_;have c:=Pn h;rw[f.all,d,LR]at c;have mq:v.old.getD j M∈Ci T i:=by(rw[f.old,d,Lz,Lh,LN q,<-Lh];exact(L1.1 (BI.2 ⟨j,q,rfl⟩)).1)
  have lt:=c.2.2 _ mq x (Lk _ g);have mo:v.old.getD j M∈(Zt h).1:=by(rw[<-f.ol];exact BI.2 ⟨j,by have:=f.is d;omega,rfl⟩)
  obtain⟨s,a,_⟩:=(f.g.objs.2 _).1 mo;have l:=tf.1;rw[f.c,f.g.ofx a]at l;rw[(Hb ((f.pm s l).2.2 _ a)).2.1];exact .inr (f.g.sep a g lt)
 have o:=Hb (show(Z1 (wq h v (Ci T i)).j.W x).1=(Z1 h.W x).1 by rw[r];exact p.2.2 x g);exact⟨o.1 (HT t g).1,o.2.1⟩
theorem FV.P:∀i,i<=h.P.length->EP v i=wq h v (Ci T i)
 |0,_=>rfl
 |i+1,hi=>by
  have b:=FV.P i oq;obtain⟨R,e⟩:=Z0h T hi;have a:Ci T h.P.length=Ci T i++T i++R:=e;rw[EP,b,fpg,f.prom];by_cases pm:ZJ v i=La
  .rw[if_pos pm,f.tl oq a pm];have:=f.page pm (T i).length (Ln _) a;rw[L4]at this;exact this
  .rw[if_neg pm];have:=f.pass (by simpa using pm) (T i).length (Ln _) a;rw[L4]at this;exact this.symm
theorem FV.fin:EP v v.j.P.length=C9 v v.old.length:=by rw[f.pl,f.P _ (Ln _),wq,<-f.old]
theorem FV.fiOk:FiOk v:=by
 have pl:=f.pl;have o:∀i,i<=h.P.length->(EP v i).j.P=v.j.P:=λi c=>by(rw[f.P i c];exact(HU v f.fo ((Ci T i).filter (CM h)).length).2.2.1)
 refine⟨λi c=>?_,λi c=>by rw[o i oq],λi c pm=>?_⟩;obtain⟨R,e⟩:=Z0h T (show i<=h.P.length by omega);rw[f.P i oq];exact f.filOk e;obtain⟨R,e⟩:=Z0h T (show i+1<=h.P.length by omega);have b:Ci T h.P.length=Ci T i++T i++R:=e;have m:=o i oq;rw[f.P i oq]at pm m⊢;rw[f.prom]at pm;rw[f.tl oq b pm];have p:∀j,j<(T i).length->Ci T h.P.length=(Ci T i++(T i).take j)++(T i).getD j M::((T i).drop (j+1)++R):=λj a=>by
  have s:T i=(T i).take j++(T i).getD j M::(T i).drop (j+1):=by(have:=LF j (T i);rw[LM oq]at this;rw[Lh,Ll oq];exact this.symm)
  rw[b];conv=>lhs;rw[s]
  simp
 have mem:∀j,j<(T i).length->(T i).getD j M∈T i:=λj a=>BI.2 ⟨j,a,rfl⟩;have g:∀j,j<=(T i).length->Eh (wq h v (Ci T i)) (T i) j=wq h v (Ci T i++(T i).take j):=λj a=>f.page pm j a b;have t:(T i).length<=4096:=by(have:=f.g.page (show i<h.P.length by omega);have n:=NL h i;rw[this]at n;exact LS n dd)
 show _=(0:Int)/\FjOk _ (T i);refine⟨rfl,λj a=>?_,t,λj a=>?_,λj a=>?_,λj a _=>?_, ?_⟩;rw[g j a];exact f.filOk (R:=(T i).drop j++R) (by rw[b,Lm,Lm,<-Lm (Lf j (T i)),LF]);have d:=f.g.on (mem j a);have pp:=EL f.g.p d.1;have u:=B5 f.g.p;have h0:0<=(i:Int)*h.C.pw:=LD oq oq;have ms:=ED (i:=i) (j:=h.P.length) (pw:=h.C.pw) (by have:=d.1;omega) oq;have q:=Ly (h.P.length:Int) h.C.pw;have r:(h.P.length:Int)=h.C.pg:=u.2.2.2.2.2.2.2.1;rw[r]at ms q;have k:=d.2.2.1;have l:=d.2.2.2.1;unfold ZN at k l;have wl:=f.fo.wl;have L:=f.iv.L;rw[f.c]at L;omega;rw[g j oq,(f.step (p j a) (mem j a) pm).1];have s:=f.step (p j a) (mem j a) pm;rw[g j oq,s.1];exact s.2.2;rw[g _ (Ln _)];rw[show(wq h v (Ci T i++(T i).take (T i).length)).j.P=v.j.P from(HU v f.fo _).2.2.1,m]
end
structure CE (h:Heap) (T tq:Nat->List Int) (w:Z7) (l4 l5:List Int):Prop where
 g:Gd h T
 k:KI h T tq w
 i:Bw w
 s:w.j.S=0\/w.j.S=1
 pt:PT w.j.C w.j.P
 ts:∀x∈w.T,(w.j.P.getD x.toNat M).S=1-w.j.S
 sd:SD w
 sc:w.D=w.Q.length
 f3:∀a,Z1 l4 a=Z1 w.j.W a\/∃x∈w.old,Nm w x/\x<=a/\a<=x+Zr w.j.W x/\(Z1 l4 a).1=SH (Zr w.j.W x) a x
 f4:∀x∈w.old,Nm w x->∀a,x<=a->a<=x+Zr w.j.W x->(Z1 l4 a).1=SH (Zr w.j.W x) a x
 n4:l4.length=w.j.W.length
 n5:l5.length=w.j.W.length
 fr:∀(i:Nat) (o:Int),i<h.P.length->0<=o->o<h.C.pw->Z1 l5 (ZN h i+o)=if Ez w.j.S (w.j.P.getD i M)then(0,0)else Z1 l4 (ZN h i+o)
def Z3H{B:Int}(hB:0<=B){h T}(g:Gd h T){s k}(n:Zy h.W)(hb:∀p∈h.P,p.N<=B)(e1:(rootsF (Zs h) s).2.2=0)(f:(Bh (rootsF (Zs h) s).1).2=0) :∃t,CE h T t (Bc h s) (Cu h s k).j.W (Hh (Cu h s k)).j.W/\EV (BL h s k)=⟨(Bc h s).j.C,(Hh (Cu h s k)).j.W,(Bc h s).j.P.map (E3 (Bc h s).j.S),1-(Bc h s).j.S,(EV (BL h s k)).B⟩:=by
 have m:=g.p;have e:=cOk h s k n m e1 f;have pr:=Zhr hB n m hb e1 f;have sd:=ZfI hB n m hb e1 f;obtain⟨t,r⟩:=Zby g n e1 f;obtain⟨g1,g2,g3,g4,g5⟩:=e.h4;have po:=B5 m;obtain⟨a1,d,u,v,a5,a6,a7,a8⟩:=Ao (Bc h s) k k.length;have a1:(Cm h s k).j=(Bc h s).j:=a1;have d:(Cm h s k).old=(Bc h s).old:=d;have u:(Cm h s k).T=(Bc h s).T:=u;have v:(Cm h s k).Q=(Bc h s).Q:=v;have w:FL (Cm h s k) (Cu h s k).j.W (Cm h s k).old.length:=ML e.f3 e.i3 (Cm h s k).old.length (Ln _);have tf:∀x,Nm (Cm h s k) x↔Nm (Bc h s) x:=λx=>by(unfold Nm ZJ;rw[a1,u,v])
 have y:=r.c;have z:=r.pl;have b:=r.wl;have w4:(Cu h s k).j.W.length=h.W.length:=by(have:=w.l;rw[a1]at this;exact this.trans b)
 have fw:=Z4e (c:=h.C) (s:=(Bc h s).j.S) (l:=(Bc h s).j.P) (ws:=(Cu h s k).j.W) oq (by rw[w4,z,po.2.2.2.2.2.2.2.1];exact po.2.2.2.2.2.1) (Bc h s).j.P.length (Ln _);have e5:(Hh (Cu h s k)).j.W=Ec h.C.pw (Bc h s).j.S (Bc h s).j.P (Cu h s k).j.W (Bc h s).j.P.length:=by(simp only[Hh,g1,g2,g3])
 have ce:CE h T t (Bc h s) (Cu h s k).j.W (Hh (Cu h s k)).j.W:=by(refine⟨g,r,e.i2,e.w2.sp,pr.tab.pt,pr.tab.tk,sd.1,sd.2, ?_, ?_, ?_, ?_, ?_⟩;intro a;rcases w.s a with q|⟨x,hx,q1,q2,q3,q4⟩;refine Ls ?_;rw[a1]at q;exact q;refine Lt ⟨x,d▸hx,(tf x).1 q1,q2, ?_, ?_⟩;rw[a1]at q3;exact q3;rw[a1]at q4;exact q4;intro x hx hf a h1 h2;obtain⟨j,j1,j2⟩:=BI.1 hx;have:=w.f j (by rw[d];exact j1);rw[d,a1,j2]at this;exact this ((tf x).2 hf) a h1 h2;rw[w4,b];rw[e5,fw.1,w4,b];intro i o hi h0 ho;have:=fw.2 i o oq h0 ho;rw[e5];show Z1 _ (4096+(i:Int)*h.C.pw+o)=_;rw[this];by_cases q:Ez (Bc h s).j.S ((Bc h s).j.P.getD i M);rw[if_pos ⟨by omega,q⟩,if_pos q];rw[if_neg (λc=>q c.2),if_neg q];rfl)
 have eh:EV (BL h s k)=⟨(Bc h s).j.C,(Hh (Cu h s k)).j.W,(Bc h s).j.P.map (E3 (Bc h s).j.S),1-(Bc h s).j.S,(EV (BL h s k)).B⟩:=by(unfold EV BL;simp only[Hh,g1,g2,g3,y])
 exact⟨t,ce,eh⟩
def Z6N{w:Z7}{r}(e:(w.fwd r).2.2=0):(w.fwd r).1.j.B=w.j.B:=by
 unfold Z7.fwd Z7.place at e⊢;repeat' split
 all_goals first|rfl|simp_all
def Zah{h:Heap}{s}(c:Zy h.W)(b:Z8 h=La)(e:(rootsF (Zs h) s).2.2=0)(a:(Bh (rootsF (Zs h) s).1).2=0):(Bc h s).j.B=h.B:=
 ON (λw=>w.j.B=h.B) (λ_ _ _ _ q e=>(Z6N e).trans q) (λ_ _ _ _ _ q _ _ _ e=>(Z6N e).trans q) (λ_ _ q=>q) c b rfl e a
section
variable{B:Int}(c:0<=B){h:Heap}{T:Nat->List Int}(g:Gd h T){s:List Int}(k:List Int)(b:Zy h.W)(d:∀p∈h.P,p.N<=B)(e1:(rootsF (Zs h) s).2.2=0)(a:(Bh (rootsF (Zs h) s).1).2=0)
include c g b d e1 a
theorem Z3T:FV h T (Cm h s k):=by have f:=cOk h s k b g.p e1 a;obtain⟨tq,j,_⟩:=Z3H c g b d e1 a (k:=k);obtain⟨a1,o,l,a4,a5,a6,a7,a8⟩:=Ao (Bc h s) k k.length;have a1:(Cm h s k).j=(Bc h s).j:=a1;have l:(Cm h s k).T=(Bc h s).T:=l;have m:=HD.1 g.p;have e:=j.k;have v:=Zah b g.p e1 a;refine⟨g,f.f3,f.i3, ?_,by rw[a1];exact e.c,by rw[a1];exact e.pl, ?_, ?_,f.r3.1,λi pm=>?_⟩;rw[a1,HD];have L:=f.i2.L;refine⟨e.c▸m.1,L,by rw[e.pl,e.c];exact m.2.2.1,j.s, ?_,j.pt⟩;rw[v];refine m.2.2.2.2.1.imp id λ⟨r,t,u⟩=>⟨r,by rw[e.pl];exact t, ?_⟩;by_cases q:((h.B.toNat:Nat):Int)∈(Bc h s).T;exact(e.tk _ q).2.2.1;rw[(e.pg _ q).1];exact u;exact o.trans f.x2.o;rw[a1];intro p w;obtain⟨i,n,rfl⟩:=LV w;have:=(j.pt.b i n).s;rw[Lh,Ll n,L7]at this;omega;unfold ZJ at pm;rw[a1,l]at pm;simp only[decide_eq_true_eq,LL]at pm;obtain⟨z,p2,p3⟩:=e.pg i pm.2.2.2.2;rw[a1];refine⟨by rw[<-z];exact pm.2.2.1,p2,λx y=>?_⟩;exact(e.hd i x y).resolve_right λq=>pm.2.2.2.1 q.2.2
theorem Zh6:EP (Cm h s k) (Cm h s k).j.P.length=Cu h s k:=(Z3T c g k b d e1 a).fin
theorem ZdN:PT (Cu h s k).j.C (Cu h s k).j.P:=by have f:=cOk h s k b g.p e1 a;obtain⟨tq,e,_⟩:=Z3H c g b d e1 a (k:=k);rw[f.h4.1,f.h4.2.1,<-e.k.c];exact e.pt
end
def ZdT(ws:List Int)(a n:Int)(hw:ws.length<=1048576)(h0:4096<=a/\1<=n/\n<=1000/\a-4096+n<=ws.length):GP 117 [Z2 ws,uU a,nI n] La (.tu [.ow 0,nI 0]) [.arr 35 1 (((ws.drop (a-4096).toNat).take n.toNat).map wD)]:=by
 have c:(Zw ws a n).1=a-4096:=by rw[Zw,if_pos oq]
 have b:(Zw ws a n).2=La:=by rw[Zw,if_pos oq];simp;omega
 have d:(ws.drop (a-4096).toNat).take n.toNat≠[]:=SS (by rw[LO,List.length_drop];omega);exact gF [41027] func117 [Lc,La]<|Fh 26 [.els (Lb wD (Lf (((Zw ws a n).1+n).toNat-(Zw ws a n).1.toNat) (Lg (Zw ws a n).1.toNat ws)))]<|Ffb 11 (O (n<0))<|Fc 16 (@Ty ws a n aa oq)<|Ffb 20 (!(Zw ws a n).2)<|Fi 25 ((Zw ws a n).1+n)<|Fa (by(simp only[Lu];omega):0<=(Zw ws a n).1/\(Zw ws a n).1<=(Zw ws a n).1+n/\(Zw ws a n).1+n<=(↑(Lb wD ws).length:Int))<|Fa (by simp[b,Lr,Lq,LC,Lp,wD,iD]:Lf (((Zw ws a n).1+n).toNat-(Zw ws a n).1.toNat) (Lg (Zw ws a n).1.toNat (Lb wD ws))=Lb wD (Lf (((Zw ws a n).1+n).toNat-(Zw ws a n).1.toNat) (Lg (Zw ws a n).1.toNat ws)))<|Fc 27 (@Z8T (Lf (((Zw ws a n).1+n).toNat-(Zw ws a n).1.toNat) (Lg (Zw ws a n).1.toNat ws)) (by(simp[b, *];omega)) (by(simp[b, *];omega)))<|Fa (H7 _:Cd (Lb wD (Lf (((Zw ws a n).1+n).toNat-(Zw ws a n).1.toNat) (Lg (Zw ws a n).1.toNat ws))))<|Fr (35:Int)<|Fa (by refine congrArg _ ?_;(simp[b, *];omega):Lb wD (Lf (((Zw ws a n).1+n).toNat-(Zw ws a n).1.toNat) (Lg (Zw ws a n).1.toNat ws))=Lb wD (Lf n.toNat (Lg (a-4096).toNat ws))) Fz
def Gp(l:List Int):Nat:=(l.takeWhile λx=>x==0).length
def Z0g{l}{m:Nat}(h:m<Gp l):m<l.length/\l.getD m M=0:=by obtain⟨a,b⟩:=SR _ _ _ h;refine⟨a, ?_⟩;rw[Lh,Ll a];simpa using b
def Z7o{l:List Int}(h:Gp l<l.length):¬ l.getD (Gp l) M=0:=by
 have a:=SY (λx:Int=>x==0) l h;have b:l.getD (Gp l) M=l[(l.takeWhile λx=>x==0).length]:=by(rw[Lh,Ll h];rfl)
 rw[b];simpa using a
def C1(l:List Int):Int:=if Gp l<l.length then Gp l else -1
def Z8H x:GP 248 [uU x] La (bL (x != 0)) []:=by exact gF [] func248 [] Fz
def DW(l:List Int)(i:Nat):Tg:=⟨tm 19 [(0,Z2 l),(1,.fn 248 []),(4,nI 0),(7,nI l.length),(8,nI i)],[],60⟩
def Z52(l:List Int)(i:Nat)(hl:l.length<=1048576)(hi:i<l.length)(e:l.getD i M=0):CP (Zl f172 0) (DW l i).st .nrm (DW l (i+1)).st:=by exact sF [] []<|Fh 16 [.call La (bL (l.getD i M != 0)) [],.br Lc]<|Ftb 9 (O ((i:Int)<(l.length:Int)))<|Fek 14 wD l (↑i) i<|Fa (@Z8H (l.getD i M))<|Fb ((l.getD i M != 0)=Lc)<|Fx 18 i Fz
def ZjU(l:List Int)(i:Nat)(hl:l.length<=1048576)(hi:i<l.length)(e:¬ l.getD i M=0):CP (Zl f172 0) (DW l i).st .ret (Tg.st ⟨tm 19 [(4,nI i)],[],60⟩):=by exact sF [] []<|Fh 16 [.call La (bL (l.getD i M != 0)) [],.br La]<|Ftb 9 (O ((i:Int)<(l.length:Int)))<|Fek 14 wD l (↑i) i<|Fa (@Z8H (l.getD i M))<|Fb ((l.getD i M != 0)=La) Fz
def Zjm l:CP (Zl f172 0) (DW l l.length).st (.ext 0) (Tg.st ⟨tm 19 [(4,nI 0)],[],60⟩):=by exact sF [] []<|Ffb 9 (O ((l.length:Int)<(l.length:Int))) Fz
def Zjr(l:List Int)(hl:l.length<=1048576)(h:¬ Gp l<l.length)  := Bp (S:=λj=>(DW l j).st) l.length (by kernel_rfl) (λj a=>Z52 l j hl a (Z0g (by omega)).2) (Zjm l)
def ZiU(l:List Int)(hl:l.length<=1048576)(h:Gp l<l.length)  := Ev (S:=λj=>(DW l j).st) (Gp l) (by kernel_rfl) (λj a=>Z52 l j hl (by omega) (Z0g a).2) (ZjU l (Gp l) hl h (Z7o h))
def ZfT(l:List Int)(hl:l.length<=1048576):GP 172 [Z2 l,.fn 248 []] La (nI (C1 l)) []:=by by_cases h:Gp l<l.length;have a:C1 l=Gp l:=if_pos h;rw[a];exact gF [] func172 []<|Fl 7 wD l<|Fu (@ZiU l aa aa) Fz;have a:C1 l=-1:=if_neg h;rw[a];exact gF [] func172 []<|Fl 7 wD l<|Fu (@Zjr l aa aa) Fz
def G4(c:List Int)(x:Int):Nat:=(min (max x 0) (c.length:Int)).toNat
def R5(c:List Int)(x k:Int):List Int:=c.take (G4 c x)++Le (G4 c (x+k)-G4 c x) 0++c.drop (G4 c x+(G4 c (x+k)-G4 c x))
def ZL(h:Heap)(F:Int)(l c:List Int):Nat->List Int|0=>c|n+1=>R5 (ZL h F l c n) (l.getD n M-F) (Gu h (l.getD n M))
def PY c(x:Int):G4 c x<=c.length:=by unfold G4;omega
def Z8E c(x:Int){k:Int}(hk:0<=k):G4 c x<=G4 c (x+k):=by unfold G4;omega
def Z4y(h:Heap)(a:Int):0<=Gu h a/\Gu h a<=256:=by have:=I8 (Z9 h a).1;unfold Gu;split<;>omega
def Zc0 c x{k:Int}(a:0<=k):(R5 c x k).length=c.length:=by have h1:=PY c x;have h2:=PY c (x+k);have h3:=Z8E c x a;simp[R5];omega
def Tw(h:Heap) F l c:∀n,(ZL h F l c n).length=c.length|0=>rfl|n+1=>by rw[ZL,Zc0 _ _ (Z4y h _).1,Tw h F l c n]
def adL(h:Heap)(F:Int)(l c:List Int)(n:Nat):Tg:=⟨tm 90 [(2,.pt 8002 0 0),(4,uU 0),(5,bL Lc),(6,uU F),(8,.ow 25033),(44,Z2 l),(45,nI l.length),(46,nI n)],[(25033,.arr 35 1 ((ZL h F l c n).map wD)),(8002,.box 28 h.cells)],60⟩
def Zb1(h:Heap)(F:Int)(l c:List Int)(n:Nat)(g:Zy h.W)(hF:0<=F/\F<=8192)(hl:l.length<=1048576)(hc:c.length<=64)(hr:∀x∈l,0<=x/\x<=8192)(f:n<l.length):CP (Zl f229 0) (adL h F l c n).st .nrm (adL h F l c (n+1)).st:=by
 have hx:=hr (l.getD n M) (BI.2 ⟨n,f,rfl⟩);have hm:=Iw g (l.getD n M);have e:=Tw h F l c n;have hs:=I8 (Z9 h (l.getD n M)).1;by_cases d:(Z9 h (l.getD n M)).1.K=0;have b:Gu h (l.getD n M)=1:=if_pos d;have a:ZL h F l c (n+1)=R5 (ZL h F l c n) (l.getD n M-F) 1:=by rw[ZL,b]
 exact sF [] (fO 8)<|Fh 20000 [.els (Lb wD (Lf (min (max (l.getD n M-F) 0) (↑(ZL h F l c n).length:Int)).toNat (ZL h F l c n)++Le ((min (max (l.getD n M-F+1) 0) (↑(ZL h F l c n).length:Int)).toNat-(min (max (l.getD n M-F) 0) (↑(ZL h F l c n).length:Int)).toNat) 0++Lg ((min (max (l.getD n M-F) 0) (↑(ZL h F l c n).length:Int)).toNat+(Le ((min (max (l.getD n M-F+1) 0) (↑(ZL h F l c n).length:Int)).toNat-(min (max (l.getD n M-F) 0) (↑(ZL h F l c n).length:Int)).toNat) (0:Int)).length) (ZL h F l c n)))]<|Ftb 47 (O ((n:Int)<(l.length:Int)))<|Fek 48 wD l (↑n) n<|Fc 53 (@N5 h (l.getD n M) aa oq)<|Ffb 58 ((Z9 h (l.getD n M)).1.K != 0)<|Fi 62 (l.getD n M)<|Fi 64 F<|Fi 65 (l.getD n M-F)<|Fgo 68 (if 0 > l.getD n M-F then 0 else l.getD n M-F) (max (l.getD n M-F) 0)<|Fl 70 wD (ZL h F l c n)<|Fgo 71 (if(↑(ZL h F l c n).length:Int)<max (l.getD n M-F) 0 then(↑(ZL h F l c n).length:Int)else max (l.getD n M-F) 0) (min (max (l.getD n M-F) 0) (↑(ZL h F l c n).length:Int))<|Fi 74 (l.getD n M-F+1)<|Fgo 75 (if 0 > l.getD n M-F+1 then 0 else l.getD n M-F+1) (max (l.getD n M-F+1) 0)<|Fl 77 wD (ZL h F l c n)<|Fgo 78 (if(↑(ZL h F l c n).length:Int)<max (l.getD n M-F+1) 0 then(↑(ZL h F l c n).length:Int)else max (l.getD n M-F+1) 0) (min (max (l.getD n M-F+1) 0) (↑(ZL h F l c n).length:Int))<|Fa (by(simp only[Lu];omega):0<=min (max (l.getD n M-F) 0) (↑(ZL h F l c n).length:Int)/\min (max (l.getD n M-F) 0) (↑(ZL h F l c n).length:Int)<=min (max (l.getD n M-F+1) 0) (↑(ZL h F l c n).length:Int)/\min (max (l.getD n M-F+1) 0) (↑(ZL h F l c n).length:Int)<=(↑(Lb wD (ZL h F l c n)).length:Int))<|Fa (by simp only[C3,Lp,Lr,Lq,LY,LB];rfl:C3 (Lb wD (ZL h F l c n)) (min (max (l.getD n M-F) 0) (↑(ZL h F l c n).length:Int)).toNat (Le ((min (max (l.getD n M-F+1) 0) (↑(ZL h F l c n).length:Int)).toNat-(min (max (l.getD n M-F) 0) (↑(ZL h F l c n).length:Int)).toNat) [ZD 0])=Lb wD (Lf (min (max (l.getD n M-F) 0) (↑(ZL h F l c n).length:Int)).toNat (ZL h F l c n)++Le ((min (max (l.getD n M-F+1) 0) (↑(ZL h F l c n).length:Int)).toNat-(min (max (l.getD n M-F) 0) (↑(ZL h F l c n).length:Int)).toNat) 0++Lg ((min (max (l.getD n M-F) 0) (↑(ZL h F l c n).length:Int)).toNat+(Le ((min (max (l.getD n M-F+1) 0) (↑(ZL h F l c n).length:Int)).toNat-(min (max (l.getD n M-F) 0) (↑(ZL h F l c n).length:Int)).toNat) (0:Int)).length) (ZL h F l c n)))<|Fx 80 n<|Fr (35:Int)<|Fa (by refine congrArg _ ?_;rw[a];simp only[R5,G4,LB]:Lb wD (Lf (min (max (l.getD n M-F) 0) (↑(ZL h F l c n).length:Int)).toNat (ZL h F l c n)++Le ((min (max (l.getD n M-F+1) 0) (↑(ZL h F l c n).length:Int)).toNat-(min (max (l.getD n M-F) 0) (↑(ZL h F l c n).length:Int)).toNat) 0++Lg ((min (max (l.getD n M-F) 0) (↑(ZL h F l c n).length:Int)).toNat+(Le ((min (max (l.getD n M-F+1) 0) (↑(ZL h F l c n).length:Int)).toNat-(min (max (l.getD n M-F) 0) (↑(ZL h F l c n).length:Int)).toNat) (0:Int)).length) (ZL h F l c n))=Lb wD (ZL h F l c (n+1))) Fz;have b:Gu h (l.getD n M)=Z5 (Z9 h (l.getD n M)).1:=if_neg d;have a:ZL h F l c (n+1)=R5 (ZL h F l c n) (l.getD n M-F) (Z5 (Z9 h (l.getD n M)).1):=by rw[ZL,b]
 exact sF [] (fO 8)<|Fh 20000 [.els (Lb wD (Lf (min (max (l.getD n M-F) 0) (↑(ZL h F l c n).length:Int)).toNat (ZL h F l c n)++Le ((min (max (l.getD n M-F+Z5 (Z9 h (l.getD n M)).1) 0) (↑(ZL h F l c n).length:Int)).toNat-(min (max (l.getD n M-F) 0) (↑(ZL h F l c n).length:Int)).toNat) 0++Lg ((min (max (l.getD n M-F) 0) (↑(ZL h F l c n).length:Int)).toNat+(Le ((min (max (l.getD n M-F+Z5 (Z9 h (l.getD n M)).1) 0) (↑(ZL h F l c n).length:Int)).toNat-(min (max (l.getD n M-F) 0) (↑(ZL h F l c n).length:Int)).toNat) (0:Int)).length) (ZL h F l c n)))]<|Ftb 47 (O ((n:Int)<(l.length:Int)))<|Fek 48 wD l (↑n) n<|Fc 53 (@N5 h (l.getD n M) aa oq)<|Ftb 58 ((Z9 h (l.getD n M)).1.K != 0)<|Fc 60 (@EC ((Z9 h (l.getD n M)).1) aa)<|Fi 62 (l.getD n M)<|Fi 64 F<|Fi 65 (l.getD n M-F)<|Fgo 68 (if 0 > l.getD n M-F then 0 else l.getD n M-F) (max (l.getD n M-F) 0)<|Fl 70 wD (ZL h F l c n)<|Fgo 71 (if(↑(ZL h F l c n).length:Int)<max (l.getD n M-F) 0 then(↑(ZL h F l c n).length:Int)else max (l.getD n M-F) 0) (min (max (l.getD n M-F) 0) (↑(ZL h F l c n).length:Int))<|Fi 74 (l.getD n M-F+Z5 (Z9 h (l.getD n M)).1)<|Fgo 75 (if 0 > l.getD n M-F+Z5 (Z9 h (l.getD n M)).1 then 0 else l.getD n M-F+Z5 (Z9 h (l.getD n M)).1) (max (l.getD n M-F+Z5 (Z9 h (l.getD n M)).1) 0)<|Fl 77 wD (ZL h F l c n)<|Fgo 78 (if(↑(ZL h F l c n).length:Int)<max (l.getD n M-F+Z5 (Z9 h (l.getD n M)).1) 0 then(↑(ZL h F l c n).length:Int)else max (l.getD n M-F+Z5 (Z9 h (l.getD n M)).1) 0) (min (max (l.getD n M-F+Z5 (Z9 h (l.getD n M)).1) 0) (↑(ZL h F l c n).length:Int))<|Fa (by(simp only[Lu];omega):0<=min (max (l.getD n M-F) 0) (↑(ZL h F l c n).length:Int)/\min (max (l.getD n M-F) 0) (↑(ZL h F l c n).length:Int)<=min (max (l.getD n M-F+Z5 (Z9 h (l.getD n M)).1) 0) (↑(ZL h F l c n).length:Int)/\min (max (l.getD n M-F+Z5 (Z9 h (l.getD n M)).1) 0) (↑(ZL h F l c n).length:Int)<=(↑(Lb wD (ZL h F l c n)).length:Int))<|Fa (by simp only[C3,Lp,Lr,Lq,LY,LB];rfl:C3 (Lb wD (ZL h F l c n)) (min (max (l.getD n M-F) 0) (↑(ZL h F l c n).length:Int)).toNat (Le ((min (max (l.getD n M-F+Z5 (Z9 h (l.getD n M)).1) 0) (↑(ZL h F l c n).length:Int)).toNat-(min (max (l.getD n M-F) 0) (↑(ZL h F l c n).length:Int)).toNat) [ZD 0])=Lb wD (Lf (min (max (l.getD n M-F) 0) (↑(ZL h F l c n).length:Int)).toNat (ZL h F l c n)++Le ((min (max (l.getD n M-F+Z5 (Z9 h (l.getD n M)).1) 0) (↑(ZL h F l c n).length:Int)).toNat-(min (max (l.getD n M-F) 0) (↑(ZL h F l c n).length:Int)).toNat) 0++Lg ((min (max (l.getD n M-F) 0) (↑(ZL h F l c n).length:Int)).toNat+(Le ((min (max (l.getD n M-F+Z5 (Z9 h (l.getD n M)).1) 0) (↑(ZL h F l c n).length:Int)).toNat-(min (max (l.getD n M-F) 0) (↑(ZL h F l c n).length:Int)).toNat) (0:Int)).length) (ZL h F l c n)))<|Fx 80 n<|Fr (35:Int)<|Fa (by refine congrArg _ ?_;rw[a];simp only[R5,G4,LB]:Lb wD (Lf (min (max (l.getD n M-F) 0) (↑(ZL h F l c n).length:Int)).toNat (ZL h F l c n)++Le ((min (max (l.getD n M-F+Z5 (Z9 h (l.getD n M)).1) 0) (↑(ZL h F l c n).length:Int)).toNat-(min (max (l.getD n M-F) 0) (↑(ZL h F l c n).length:Int)).toNat) 0++Lg ((min (max (l.getD n M-F) 0) (↑(ZL h F l c n).length:Int)).toNat+(Le ((min (max (l.getD n M-F+Z5 (Z9 h (l.getD n M)).1) 0) (↑(ZL h F l c n).length:Int)).toNat-(min (max (l.getD n M-F) 0) (↑(ZL h F l c n).length:Int)).toNat) (0:Int)).length) (ZL h F l c n))=Lb wD (ZL h F l c (n+1))) Fz
def Zg8(h:Heap) F l c:CP (Zl f229 0) (adL h F l c l.length).st (.ext 0) (Tg.st ⟨tm 90 [(4,uU 0),(5,bL Lc),(6,uU F),(8,.ow 25033)],[(25033,.arr 35 1 ((ZL h F l c l.length).map wD))],60⟩):=by exact sF [] []<|Ffb 47 (O ((l.length:Int)<(l.length:Int))) Fz
def Zhd(h:Heap)(F:Int)(l c:List Int)(e:Zy h.W)(a:0<=F/\F<=8192)(hl:l.length<=1048576)(b:c.length<=64)(hr:∀x∈l,0<=x/\x<=8192):CP (Zk f229 0) (Tg.st ⟨tm 90 [(2,.pt 8002 0 0),(4,uU 0),(5,bL Lc),(6,uU F),(8,.ow 25033),(44,Z2 l),(45,nI l.length),(46,nI 0)],[(25033,.arr 35 1 (c.map wD)),(8002,.box 28 h.cells)],60⟩) .nrm (Tg.st ⟨tm 90 [(4,uU 0),(5,bL Lc),(6,uU F),(8,.ow 25033)],[(25033,.arr 35 1 ((ZL h F l c l.length).map wD))],60⟩):=
 Bp (S:=λn=>(adL h F l c n).st) l.length kr (λn d=>Zb1 h F l c n e a hl b hr d) (Zg8 h F l c)
def Rq(h:Heap)(i:Nat):List Int:=(h.W.drop ((address h.C i 0).1-4096).toNat).take h.C.pw.toNat
def BR(h:Heap)(i:Nat):List Int:=ZL h (address h.C i 0).1 (Ze h (B1 h.P i:Nat)).1 (Rq h i) (Ze h (B1 h.P i:Nat)).1.length
def Pm(h:Heap)(i:Nat)(hw:Zy h.W)(d:Z8 h=La)(hi:i<h.P.length):GP 229 [h.av,nI i] La (.tu [uU ((address h.C i 0).1+max (C1 (BR h i)) 0),bL (O (0<=C1 (BR h i)))]) []:=by
 have e:=B5 d;have ea:(address h.C i 0).1=4096+i*h.C.pw:=by(unfold address;rw[if_pos e.1,if_pos (HM.2 oq)];simp only;omega)
 have ap:=HR e.1 (i:=i) oq oq;have hh:=Z0W h.P i;have hx:(i:Int)*h.C.pw+h.C.pw<=h.W.length:=by
  have h1:((i:Int)+1)*h.C.pw<=h.C.pg*h.C.pw:=Int.mul_le_mul_of_nonneg_right oq oq;have h2:((i:Int)+1)*h.C.pw=i*h.C.pw+h.C.pw:=by rw[LH,LI]
  have h3:h.C.pg*h.C.pw=h.C.pw*h.C.pg:=Ly _ _;omega
 have hr:=Al d (B1 h.P i:Nat);have hn:=NL h (B1 h.P i:Nat);have c:(BR h i).length<=64:=by(rw[BR,Tw,Rq,LO];omega)
 have f:C1 (BR h i)<=64/\-1<=C1 (BR h i):=by(have:Gp (BR h i)<=(BR h i).length:=(L3 _).length_le;unfold C1;split<;>omega)
 have g:(Rq h i).length<=64:=by rw[Rq,LO];omega
 unfold BR Rq at *;let b:=address h.C (i:Int) 0;let a:=ZL h b.1 (Ze h (↑(B1 h.P i):Int)).1 (Lf h.C.pw.toNat (Lg (b.1-4096).toNat h.W)) (Ze h (↑(B1 h.P i):Int)).1.length;exact gF [] func229 []<|Fc 23 (@MQ h.C ((i:Int)) (0))<|Fc 33 (@ZdT h.W (b.1) h.C.pw oq oq)<|Fc 40 (@ZgU h i aa aa)<|Fc 41 (@NS h ((↑(B1 h.P i):Int)) aa oq)<|Fl 45 wD (Ze h (↑(B1 h.P i):Int)).1<|Fu (@Zhd h (b.1) ((Ze h (↑(B1 h.P i):Int)).1) (Lf h.C.pw.toNat (Lg (b.1-4096).toNat h.W)) aa oq oq aa aa)<|Fc 82 (@ZfT a oq)<|Fgo 85 (if 0 > C1 a then 0 else C1 a) (max (C1 a) 0)<|Fv 86 (max (C1 a) 0)<|Fv 87 (b.1+max (C1 a) 0) Fz
def unS(fn:Func):Func:=match fn.body with|some (.seq x (.scope c)) => {fn with body:=Li (.seq x c)}|_=>fn
def Z7C(fn:Func):Code:=match fn.body with|some (.seq x _)=>x|_=>.skip
def Z8w(fn:Func):Code:=match fn.body with|some (.seq _ c)=>c|_=>.skip
def Zlb{P c}{n m:Nat}{s t}(f:m≠n)(h:CSpec P c s (.ext m) t):CSpec P (.block n c) s (.ext m) t:=by intro g b j a w i;refine wp_block (wp_mono (h g b j a w i) ?_);rintro e a' w' ⟨rfl,d⟩;show(if m=n then _ else _);rw[if_neg f];exact⟨rfl,d⟩
def Zgo{P fn}{b m:Nat}{S:Nat->St}{t}(n:Nat)(a:Rj b (Zk fn b)=La)(c:m≠b)(h:∀i,i<n->CSpec P (Zl fn b) (S i) .nrm (S (i+1)))(d:CSpec P (Zl fn b) (S n) (.ext m) t):CSpec P (Zk fn b) (S 0) (.ext m) t:=by rw[Z0s a];exact Zlb c (Z3q (Z10 n h (λh=>nomatch h) d))
def fdV(h:Heap)(a k:Int):Int:=(Z1 h.W (a+1+k)).1
def NQ(h:Heap)(b:List Int)(a k:Int):Bool:=(fdV h a k != 0)&&!decide (fdV h a k∈b)
def Zl2{h b}{a k:Int}:NQ h b a k=La↔¬ fdV h a k=0/\¬ fdV h a k∈b:=by simp[NQ]
def Zle{h b}{a k:Int}:NQ h b a k=Lc↔fdV h a k=0\/fdV h a k∈b:=by by_cases c:fdV h a k=0<;>by_cases d:fdV h a k∈b<;>simp[NQ,c,d]
def yJ(a:Int)(P:List Int):Nat->Int|0=>0|j+1=>a+1+P.getD j M
def apI(h:Heap)(b:List Int)(i:Nat)(a:Int)(P:List Int)(j:Nat):Tg:=⟨tm 83 [(1,.pt 8001 0 0),(2,.pt 8002 0 0),(3,Z2 b),(5,uU (yJ a P j)),(7,uU a),(24,Z2 b),(25,nI b.length),(26,nI i),(37,ZE P),(38,nI P.length),(39,nI j)],[(8002,.box 223 [nI 0,nI 0,uU 0]),(8001,.box 28 h.cells)],64⟩
section
variable(h:Heap)(b:List Int)(i:Nat)(a:Int)(P:List Int)(j:Nat)(hw:Zy h.W)(c:h.W.length<=1048576)(hl:b.length<=1048576)(hs:b.Pairwise (· < ·))(ha:0<=a/\a<=8192)(hP:P.length<=256)(hk:0<=P.getD j M/\P.getD j M<=256)(hj:j<P.length)
include hw c hl hs ha hP hk hj
theorem Z86(e:NQ h b a (P.getD j M)=Lc):CP (Zl (unS f207) 2) (apI h b i a P j).st .nrm (apI h b i a P (j+1)).st:=by have f:yJ a P (j+1)=a+1+P.getD j M:=rfl;have d:=Zle.1 e;unfold fdV at d;clear e;generalize g:yJ a P (j+1)=y1 at f;unfold apI;rw[g];rcases d with e|e;exact sF [] (fO 5)<|Ftb 40 (O ((j:Int)<(P.length:Int)))<|Fek 41 iD P (↑j) j<|Fv 44 (a+1)<|Fv 46 (P.getD j M)<|Fv 47 (a+1+P.getD j M)<|Fc 52 (@Z0f h.W (a+1+P.getD j M) aa oq)<|Fc 58 (@bsearch b ((Z1 h.W (a+1+P.getD j M)).1) aa aa)<|Ffb 66 ((Z1 h.W (a+1+P.getD j M)).1 != 0&&!decide ((Z1 h.W (a+1+P.getD j M)).1∈b))<|Fx 67 j<|Fa ‹a+1+P.getD j M=y1› Fz;exact sF [] (fO 5)<|Ftb 40 (O ((j:Int)<(P.length:Int)))<|Fek 41 iD P (↑j) j<|Fv 44 (a+1)<|Fv 46 (P.getD j M)<|Fv 47 (a+1+P.getD j M)<|Fc 52 (@Z0f h.W (a+1+P.getD j M) aa oq)<|Fc 58 (@bsearch b ((Z1 h.W (a+1+P.getD j M)).1) aa aa)<|Ffs 66 ((Z1 h.W (a+1+P.getD j M)).1 != 0&&!decide ((Z1 h.W (a+1+P.getD j M)).1∈b))<|Fx 67 j<|Fa ‹a+1+P.getD j M=y1› Fz
theorem Z9V(f:NQ h b a (P.getD j M)=La):CP (Zl (unS f207) 2) (apI h b i a P j).st (.ext 0) (Tg.st ⟨tm 83 [(1,.pt 8001 0 0),(2,.pt 8002 0 0),(5,uU (a+1+P.getD j M))],[(8002,.box 223 [nI 0,nI 0,uU 0]),(8001,.box 28 h.cells)],68⟩):=by obtain⟨d,e⟩:=Zl2.1 f;unfold fdV at d e;clear f;exact sF [] []<|Ftb 40 (O ((j:Int)<(P.length:Int)))<|Fek 41 iD P (↑j) j<|Fv 44 (a+1)<|Fv 46 (P.getD j M)<|Fv 47 (a+1+P.getD j M)<|Fc 52 (@Z0f h.W (a+1+P.getD j M) aa oq)<|Fc 58 (@bsearch b ((Z1 h.W (a+1+P.getD j M)).1) aa aa)<|Fts 66 ((Z1 h.W (a+1+P.getD j M)).1 != 0&&!decide ((Z1 h.W (a+1+P.getD j M)).1∈b)) Fz
end
def Zd8(h:Heap) b i a P:CP (Zl (unS f207) 2) (apI h b i a P P.length).st (.ext 2) (Tg.st ⟨tm 83 [(1,.pt 8001 0 0),(2,.pt 8002 0 0),(3,Z2 b),(24,Z2 b),(25,nI b.length),(26,nI i)],[(8002,.box 223 [nI 0,nI 0,uU 0]),(8001,.box 28 h.cells)],68⟩):=by exact sF [] []<|Ffb 40 (O ((P.length:Int)<(P.length:Int))) Fz
def ZfQ(h:Heap)(b:List Int)(i:Nat)(a:Int)(P:List Int)(m:Zy h.W)(d:h.W.length<=1048576)(hl:b.length<=1048576)(hs:b.Pairwise (· < ·))(f:0<=a/\a<=8192)(e:P.length<=256)(l:∀k∈P,0<=k/\k<=256)(g:P.find? (NQ h b a)=Lx) :CP (Zk (unS f207) 2) (Tg.st ⟨tm 83 [(1,.pt 8001 0 0),(2,.pt 8002 0 0),(3,Z2 b),(5,uU 0),(7,uU a),(24,Z2 b),(25,nI b.length),(26,nI i),(37,ZE P),(38,nI P.length),(39,nI 0)],[(8002,.box 223 [nI 0,nI 0,uU 0]),(8001,.box 28 h.cells)],64⟩) .nrm (Tg.st ⟨tm 83 [(1,.pt 8001 0 0),(2,.pt 8002 0 0),(3,Z2 b),(24,Z2 b),(25,nI b.length),(26,nI i)],[(8002,.box 223 [nI 0,nI 0,uU 0]),(8001,.box 28 h.cells)],68⟩):=
 Bp (S:=λj=>(apI h b i a P j).st) P.length kr (λj c=>Z86 h b i a P j m d hl hs f e (l _ (BI.2 ⟨j,c,rfl⟩)) c (Ot g j c)) (Zd8 h b i a P)
def Zfg(h:Heap)(b:List Int)(i:Nat)(a:Int)(P:List Int)(x:Int)(l:Zy h.W)(c:h.W.length<=1048576)(hl:b.length<=1048576)(hs:b.Pairwise (· < ·))(f:0<=a/\a<=8192)(e:P.length<=256)(g:∀k∈P,0<=k/\k<=256)(q:P.find? (NQ h b a)=Li x) :CP (Zk (unS f207) 2) (Tg.st ⟨tm 83 [(1,.pt 8001 0 0),(2,.pt 8002 0 0),(3,Z2 b),(5,uU 0),(7,uU a),(24,Z2 b),(25,nI b.length),(26,nI i),(37,ZE P),(38,nI P.length),(39,nI 0)],[(8002,.box 223 [nI 0,nI 0,uU 0]),(8001,.box 28 h.cells)],64⟩) (.ext 0) (Tg.st ⟨tm 83 [(1,.pt 8001 0 0),(2,.pt 8002 0 0),(5,uU (a+1+x))],[(8002,.box 223 [nI 0,nI 0,uU 0]),(8001,.box 28 h.cells)],68⟩):=by
 obtain⟨n,d,m,o,p⟩:=Ag q;subst m;exact Zgo (S:=λj=>(apI h b i a P j).st) n kr dd (λj r=>Z86 h b i a P j l c hl hs f e (g _ (BI.2 ⟨j,by omega,rfl⟩)) oq (p j r)) (Z9V h b i a P n l c hl hs f e (g _ (BI.2 ⟨n,d,rfl⟩)) d o)
def apF(h:Heap)(b:List Int)(a:Int):Option Int:=(Zz (Z9 h a).1).find? (NQ h b a)
def apL(h:Heap)(a:List Int)(i:Nat):Tg:=⟨tm 83 [(1,.pt 8001 0 0),(2,.pt 8002 0 0),(3,Z2 a),(5,uU 0),(24,Z2 a),(25,nI a.length),(26,nI i)],[(8002,.box 223 [nI 0,nI 0,uU 0]),(8001,.box 28 h.cells)],60⟩
def Z3y(h:ZB):∀n:Nat,∀k∈Ch h n,0<=k/\k<n
 |0,k,hk=>by simp[Ch]at hk
 |n+1,k,hk=>by
  unfold Ch at hk;split at hk
  .rcases LZ.1 hk with hk|hk
   .have:=Z3y h n k hk;omega
   .simp only[L0,List.not_mem_nil,or_false]at hk;omega
  .have:=Z3y h n k hk;omega
def Z19(h:ZB):(Zz h).length<=256/\∀k∈Zz h,0<=k/\k<=256:=by
 rw[<-Z6p];have hs:=I8 h;have h1:=Ml h (Z5 h).toNat
 exact⟨by omega,λk a=>by have:=Z3y h _ k a;omega⟩
section
variable(h:Heap)(a:List Int)(i:Nat)(c:Zy h.W)(d:h.W.length<=1048576)(hl:a.length<=1048576)(hs:a.Pairwise (· < ·))(hr:∀x∈a,0<=x/\x<=8192)(b:i<a.length)
include c d hl hs hr b
theorem Z6h(j:apF h a (a.getD i M)=Lx):CP (Zl (unS f207) 0) (apL h a i).st .nrm (apL h a (i+1)).st:=by have hx:=hr (a.getD i M) (BI.2 ⟨i,b,rfl⟩);have hm:=Iw c (a.getD i M);have g:=Z19 (Z9 h (a.getD i M)).1;have k:=g.1;have l:=g.2;unfold apF at j;let e:=a.getD i M;let f:=Zz (Z9 h e).1;exact sF [] []<|Fk (2,Tg.mk (tm 83 [(1,AV.pt 8001 0 0),(2,AV.pt 8002 0 0),(3,Z2 a),(5,uU 0),(7,uU e),(24,Z2 a),(25,nI ↑a.length),(26,nI ↑i),(37,ZE f),(38,nI (f.length:Int)),(39,nI 0)]) [(8002,Z4.box 223 [nI 0,nI 0,uU 0]),(8001,Z4.box 28 h.cells)] 64,Ex.nrm,Tg.mk (tm 83 [(1,AV.pt 8001 0 0),(2,AV.pt 8002 0 0),(3,Z2 a),(24,Z2 a),(25,nI ↑a.length),(26,nI ↑i)]) [(8002,Z4.box 223 [nI 0,nI 0,uU 0]),(8001,Z4.box 28 h.cells)] 68)<|Ftb 27 (O ((i:Int)<(a.length:Int)))<|Fek 28 wD a (↑i) i<|Fc 33 (@N5 h e aa oq)<|Fc 37 (@O7 ((Z9 h e).1) aa)<|Fl 38 iD f<|Fa (@ZfQ h a i e f aa aa aa aa aa aa aa aa)<|Fx 68 i Fz
theorem Zcx x(j:apF h a (a.getD i M)=Li x):CP (Zl (unS f207) 0) (apL h a i).st (.ext 0) (Tg.st ⟨tm 83 [(1,.pt 8001 0 0),(2,.pt 8002 0 0),(5,uU (a.getD i M+1+x))],[(8002,.box 223 [nI 0,nI 0,uU 0]),(8001,.box 28 h.cells)],72⟩):=by have hx:=hr (a.getD i M) (BI.2 ⟨i,b,rfl⟩);have hm:=Iw c (a.getD i M);have g:=Z19 (Z9 h (a.getD i M)).1;have k:=g.1;have l:=g.2;unfold apF at j;let e:=a.getD i M;let f:=Zz (Z9 h e).1;exact sF [] []<|Fk (2,Tg.mk (tm 83 [(1,AV.pt 8001 0 0),(2,AV.pt 8002 0 0),(3,Z2 a),(5,uU 0),(7,uU e),(24,Z2 a),(25,nI ↑a.length),(26,nI ↑i),(37,ZE f),(38,nI (f.length:Int)),(39,nI 0)]) [(8002,Z4.box 223 [nI 0,nI 0,uU 0]),(8001,Z4.box 28 h.cells)] 64,Ex.ext 0,Tg.mk (tm 83 [(1,AV.pt 8001 0 0),(2,AV.pt 8002 0 0),(5,uU (a.getD i M+1+x))]) [(8002,Z4.box 223 [nI 0,nI 0,uU 0]),(8001,Z4.box 28 h.cells)] 68)<|Ftb 27 (O ((i:Int)<(a.length:Int)))<|Fek 28 wD a (↑i) i<|Fc 33 (@N5 h e aa oq)<|Fc 37 (@O7 ((Z9 h e).1) aa)<|Fl 38 iD f<|Fa (@Zfg h a i e f x aa aa aa aa aa aa aa aa) Fz
end
def ZfD(h:Heap) a:CP (Zl (unS f207) 0) (apL h a a.length).st (.ext 0) (Tg.st ⟨tm 83 [(1,.pt 8001 0 0),(2,.pt 8002 0 0),(5,uU 0)],[(8002,.box 223 [nI 0,nI 0,uU 0]),(8001,.box 28 h.cells)],72⟩):=by exact sF [] []<|Ffb 27 (O ((a.length:Int)<(a.length:Int))) Fz
def ZiR(h:Heap)(b:List Int)(f:Zy h.W)(c:h.W.length<=1048576)(hl:b.length<=1048576)(hs:b.Pairwise (· < ·))(hr:∀x∈b,0<=x/\x<=8192)(e:b.find? (λa=>(apF h b a).isSome)=Lx)  := Bp (S:=λi=>(apL h b i).st) b.length (by kernel_rfl) (λi d=>Z6h h b i f c hl hs hr d (by simpa using Ot e i d)) (ZfD h b)
def ZfG(h:Heap)(b:List Int)(a x:Int)(d:Zy h.W)(c:h.W.length<=1048576)(hl:b.length<=1048576)(hs:b.Pairwise (· < ·))(hr:∀x∈b,0<=x/\x<=8192)(j:b.find? (λa=>(apF h b a).isSome)=Li a)(l:apF h b a=Li x):CP (Zk (unS f207) 0) (Tg.st ⟨tm 83 [(1,.pt 8001 0 0),(2,.pt 8002 0 0),(3,Z2 b),(5,uU 0),(24,Z2 b),(25,nI b.length),(26,nI 0)],[(8002,.box 223 [nI 0,nI 0,uU 0]),(8001,.box 28 h.cells)],60⟩) .nrm (Tg.st ⟨tm 83 [(1,.pt 8001 0 0),(2,.pt 8002 0 0),(5,uU (a+1+x))],[(8002,.box 223 [nI 0,nI 0,uU 0]),(8001,.box 28 h.cells)],72⟩):=by obtain⟨n,e,f,h3,g⟩:=Ag j;subst f;exact Bp (S:=λi=>(apL h b i).st) n kr (λi k=>Z6h h b i d c hl hs hr oq (by simpa using g i k)) (Zcx h b n d c hl hs hr e x l)
def ZhK(h:Heap):CP (Z7C (unS f207)) (Tg.st ⟨tm 83 [(0,h.av)],[],1⟩) .nrm (Tg.st ⟨tm 83 [(1,.pt 8001 0 0),(2,.pt 8002 0 0)],[(8002,.box 223 [nI 0,nI 0,uU 0]),(8001,.box 28 h.cells)],20⟩):=by exact sF [] [] Fz
def RY(h:Heap):Int:=match (Zt h).1.find? (λa=>(apF h (Zt h).1 a).isSome)with|some a=>a+1+(apF h (Zt h).1 a).getD 0|none=>0
def Cy(h:Heap):C0:=if RY h=0 then⟨0,0,0⟩else⟨6,(Z3 h.C (RY h)).1,RY h⟩
def Zdz(h:Heap)(hw:Zy h.W)(i:h.W.length<=1048576):CP (Z8w (unS f207)) (Tg.st ⟨tm 83 [(1,.pt 8001 0 0),(2,.pt 8002 0 0)],[(8002,.box 223 [nI 0,nI 0,uU 0]),(8001,.box 28 h.cells)],20⟩) .ret (Tg.st ⟨tm 83 [(2,.pt 8002 0 0)],[(8002,.box 223 [nI (Cy h).fault,nI (Cy h).page,uU (Cy h).addr])],90⟩):=by
 have hl:=SI h;have hs:=Z9j h;have hr:=Z2a h;cases hf:(Zt h).1.find? (λa=>(apF h (Zt h).1 a).isSome)with
 |none =>
  have b:RY h=0:=by simp only[RY,hf]
  have c:Cy h=⟨0,0,0⟩:=if_pos b;rw[c];exact sF [] []<|Fk (0,Tg.mk (tm 83 [(1,AV.pt 8001 0 0),(2,AV.pt 8002 0 0),(3,Z2 (Zt h).1),(5,uU 0),(24,Z2 (Zt h).1),(25,nI (↑(Zt h).1.length:Int)),(26,nI 0)]) [(8002,Z4.box 223 [nI 0,nI 0,uU 0]),(8001,Z4.box 28 h.cells)] 60,Ex.nrm,Tg.mk (tm 83 [(1,AV.pt 8001 0 0),(2,AV.pt 8002 0 0),(5,uU 0)]) [(8002,Z4.box 223 [nI 0,nI 0,uU 0]),(8001,Z4.box 28 h.cells)] 72)<|Fc 21 (@Pk h aa)<|Fl 25 wD (Zt h).1<|Fa (@ZiR h ((Zt h).1) aa aa oq aa aa aa) Fz
 |some a =>
  obtain⟨n,e,f,g,h4⟩:=Ag hf;obtain⟨x,d⟩:=Option.isSome_iff_exists.1 g;have ha:=hr a (BI.2 ⟨n,e,f⟩);have j:=(Z19 (Z9 h a).1).2 x (List.mem_of_find?_eq_some d);have b:RY h=a+1+x:=by simp only[RY,hf,d,L7]
  have c:Cy h=⟨6,(Z3 h.C (a+1+x)).1,a+1+x⟩:=by rw[Cy,b,if_neg oq]
  rw[c];exact sF [] []<|Fk (0,Tg.mk (tm 83 [(1,AV.pt 8001 0 0),(2,AV.pt 8002 0 0),(3,Z2 (Zt h).1),(5,uU 0),(24,Z2 (Zt h).1),(25,nI (↑(Zt h).1.length:Int)),(26,nI 0)]) [(8002,Z4.box 223 [nI 0,nI 0,uU 0]),(8001,Z4.box 28 h.cells)] 60,Ex.nrm,Tg.mk (tm 83 [(1,AV.pt 8001 0 0),(2,AV.pt 8002 0 0),(5,uU (a+1+x))]) [(8002,Z4.box 223 [nI 0,nI 0,uU 0]),(8001,Z4.box 28 h.cells)] 72)<|Fc 21 (@Pk h aa)<|Fl 25 wD (Zt h).1<|Fa (@ZfG h ((Zt h).1) a x aa aa oq aa aa aa aa)<|Ffb 70 (a+1+x==0)<|Fc 76 (@Gb h.C (a+1+x) oq oq) Fz
end Go.Proofs.YtgedmeaemofdkaaGreat
