/-
 The statement BoundMeasures: part 6.
 Conditions: none.
-/
import Derived.Laws.Bits64b
import Derived.Test.YtgedmeaemofdkaaGreatS5
set_option maxRecDepth 100000
set_option maxHeartbeats 2000000
set_option linter.all false
open Bool renaming true->X,false->Z
open List renaming map->Y,length_map->O,map_cons->Lf,mem_map->Lk,replicate->Ll
open Inhabited renaming default->M
open Option renaming some->L
open Go.IntKind renaming i64->La,u64->Ld,u32->Le,wrap_u32->Lj
open BitVec renaming ofInt->Lb,ofInt_natCast->Lg,toNat_ofNat->Lh
open Int renaming toNat_of_nonneg->Lc,natCast_emod->Li
open Nat renaming and_two_pow_sub_one_eq_mod->Lm,mod_eq_of_lt->Ln,one_le_two_pow->Lo,pow_le_pow_right->Lp
namespace Go.Sx
def eqDV:DV->DV->List Prop
 | .sc (.int k a),.sc (.int k' b)=>if ikEq k k' then [a=b]else [DV.sc (.int k a) = .sc (.int k' b)]
 | .sc (.bool a),.sc (.bool b)=>[a=b]
 | .sl s a,.sl s' b=>if s=s' then [a=b]else [DV.sl s a = .sl s' b]
 | x,y=>[x=y]
def Zd3:AV->AV->List Prop
 | .d x,.d y=>eqDV x y
 | x,y=>[x=y]
def eqL(f:AV->AV->List Prop):List AV->List AV->List Prop
 | a::l,b::m=>f a b++eqL f l m
 | [],[]=>[]
 | l,m=>[l=m]
def eqA:AV->AV->List Prop
 | .ag l,.ag m=>eqL Zd3 l m
 | .tu l,.tu m=>eqL Zd3 l m
 | x,y=>Zd3 x y
def eqT:AV->AV->List Prop
 | .tu l,.tu m=>eqL eqA l m
 | x,y=>eqA x y
def Znk{x y:DV}(h:allP (eqDV x y)):x=y:=by
 unfold eqDV at h;split at h
 .split at h
  .rename_i hk;have:=ZdJ hk;simp only[allP]at h;rw[this,h]
  .exact h
 .simp only[allP]at h;rw[h]
 .split at h
  .rename_i hk;simp only[allP]at h;rw[hk,h]
  .exact h
 .exact h
def Z8H{x y:AV}(h:allP (Zd3 x y)):x=y:=by
 unfold Zd3 at h;split at h
 .rw[Znk h]
 .exact h
def Zgd{f:AV->AV->List Prop}(hf:∀ x y,allP (f x y)->x=y):∀ {l m:List AV},allP (eqL f l m)->l=m
 | [],[],_=>rfl
 | a::l,b::m,h=>by
  obtain⟨h1,h2⟩:=allP_append.1 h;rw[hf a b h1,Zgd hf h2]
 | [],b::m,h=>h
 | a::l,[],h=>h
def Zms{x y:AV}(h:allP (eqA x y)):x=y:=by
 unfold eqA at h;split at h
 .rw[Zgd (λ_ _=>Z8H) h]
 .rw[Zgd (λ_ _=>Z8H) h]
 .exact Z8H h
def ZpO{x y:AV}(h:allP (eqT x y)):x=y:=by
 unfold eqT at h;split at h
 .rw[Zgd (λ_ _=>Zms) h]
 .exact Zms h
def selP:List Bool->List (AV×AV)->List Prop
 | true::fl,p::l=>eqT p.1 p.2++selP fl l
 | false::fl,_::l=>selP fl l
 | _,_=>[]
def Zet:List Bool->List (AV×AV)->List (AV×AV)
 | true::fl,_::l=>Zet fl l
 | false::fl,p::l=>p::Zet fl l
 | _,l=>l
def Zeu:∀ {fl:List Bool} {l:List (AV×AV)},allP (selP fl l)->(Zet fl l).map (·.1)=(Zet fl l).map (·.2)->l.map (·.1)=l.map (·.2)
 | [],l,_,h=>by cases l<;>exact h
 | true::fl,[],_,_=>rfl
 | false::fl,[],_,_=>rfl
 | true::fl,p::l,h,k=>by
  obtain⟨h1,h2⟩:=allP_append.1 h;simp only[Lf,ZpO h1,Zeu h2 k]
 | false::fl,p::l,h,k=>by
  simp only[Zet,Lf,List.cons.injEq]at k;simp only[Lf,k.1,Zeu (fl:=fl) h k.2]
def oblE(fl:List Bool):Option Run->Prop
 | some r=>allP (r.ph++selP fl r.eq)
 | none=>False
def lefE(fl:List Bool):Option Run->List AV
 | some r=>(Zet fl r.eq).map (·.1)
 | none=>[]
def rigE(fl:List Bool):Option Run->List AV
 | some r=>(Zet fl r.eq).map (·.2)
 | none=>[]
def Z4F{fl:List Bool}{r:Option Run}(h:oblE fl r)(k:lefE fl r=rigE fl r):oblO r/\lefO r=rigO r:=by
 cases r with
 | none=>exact h.elim
 | some r =>
  obtain⟨h1,h2⟩:=allP_append.1 h;exact⟨h1,Zeu h2 k⟩
def gspec_ofE{P:Program}{f:Nat}{fn:Func}{args:List AV}{fr:Bool}{res:AV}{news:List Blk}(hints:List (Nat×List Hint))(cuts:List (Nat×Tg×Ex×Tg))(keep:List Nat)(hkeep:keep.Nodup)
  (hf:P.funcs[f]? = L fn) (fl:List Bool) {φ:Prop} (hφ:φ) (h1:oblE fl (runF P hints cuts keep fn args fr res news)=φ) (h2:lefE fl (runF P hints cuts keep fn args fr res news)=rigE fl (runF P hints cuts keep fn args fr res news)):GSpec P f args fr res news:=by
 rw[<- h1]at hφ;obtain⟨k1,k2⟩:=Z4F hφ h2;exact Z0j hints cuts keep hkeep hf k1 rfl k2
def stretchE{P:Program}(hints:List (Nat×List Hint))(cuts:List (Nat×Tg×Ex×Tg))(ren:List (Nat×Nat))(fl:List Bool){c:Code}{s:St}{e:Ex}{t:Tg}{φ:Prop}(hφ:φ)
  (h1:oblE fl (runToR P hints cuts ren c s t)=φ) (h2:lefE fl (runToR P hints cuts ren c s t)=rigE fl (runToR P hints cuts ren c s t)) (h3:exO (runToR P hints cuts ren c s t)=L e):CSpec P c s e t.st:=by
 rw[<- h1]at hφ;obtain⟨k1,k2⟩:=Z4F hφ h2;exact Z4t hints cuts ren k1 rfl k2 h3
def LSpec(P:Program)(fn:Func)(b:Nat)(s:St)(e:Ex)(t:St):Prop:=∃ k,Z2v P (rndF fn b) k s e t
def LSpec.next{P:Program}{fn:Func}{b:Nat}{s s' t:St}{e:Ex}(h:CSpec P (rndF fn b) s .nrm s')(k:LSpec P fn b s' e t):LSpec P fn b s e t:=let ⟨n,k⟩:=k;⟨n+1,rounds h k⟩
def LSpec.done{P:Program}{fn:Func}{b:Nat}{s t:St}{e:Ex}(he:e≠.nrm)(h:CSpec P (rndF fn b) s e t):LSpec P fn b s e t:=⟨0,he,h⟩
def LSpec.ext{P:Program}{fn:Func}{b:Nat}{s t:St}(hb:Z63 b (blkF fn b)=X)(h:LSpec P fn b s (.ext b) t):CSpec P (blkF fn b) s .nrm t:=let ⟨_,h⟩:=h;ZbH hb h
def LSpec.ret{P:Program}{fn:Func}{b:Nat}{s t:St}(hb:Z63 b (blkF fn b)=X)(h:LSpec P fn b s .ret t):CSpec P (blkF fn b) s .ret t:=let ⟨_,h⟩:=h;Zbq hb h
def LSpec.endx{P:Program}{fn:Func}{b n:Nat}{s t:St}(h:CSpec P (rndF fn b) s (.ext n) t):LSpec P fn b s (.ext n) t:=.done (λh=>nomatch h) h
def LSpec.endr{P:Program}{fn:Func}{b:Nat}{s t:St}(h:CSpec P (rndF fn b) s .ret t):LSpec P fn b s .ret t:=.done (λh=>nomatch h) h
def Z0K(l:List Int):AV:=.d (.sl 1 (l.map idv))
def bs:(∀ a b:Bool,((a&&b)=X)=(a=X/\b=X))/\(∀ a b:Bool,((a||b)=X)=(a=X\/b=X))/\(∀ (p:Prop) [Decidable p],(decide p=X)=p)/\(∀ (p:Prop) [Decidable p],(decide p=Z)=¬ p) /\
  (∀ a:Bool,((!a)=X)=(a=Z))/\(∀ a:Bool,((!a)=Z)=(a=X))/\(∀ a b:Bool,((a&&b)=Z)=(a=Z\/b=Z))/\(∀ a b:Bool,((a||b)=Z)=(a=Z/\b=Z)) /\
  (∀ a b:Int,((a==b)=X)=(a=b))/\(∀ a b:Int,((a==b)=Z)=¬ (a=b))/\(∀ a b:Bool,((a==b)=X)=(a=X↔b=X))/\(∀ p q:Prop,(¬ (p/\q))=(p->¬ q))/\(∀ p q:Prop,(¬ (p\/q))=(¬ p/\¬ q))/\(∀ p:Prop,(¬ ¬ p)=p)/\(∀ a b:Int,((a != b)=X)=¬ (a=b))/\(∀ a b:Int,((a != b)=Z)=(a=b))/\(∀ a b:Bool,((a != b)=X)=¬ (a=X↔b=X))/\(∀ a b:Bool,((a != b)=Z)=(a=X↔b=X))/\(∀ a b:Bool,((a==b)=Z)=¬ (a=X↔b=X)):=by
 refine⟨by simp,by simp,by simp,by simp,by simp,by simp, ?_,by simp,by simp,by simp, ?_,by simp,by simp,by simp,by simp,by simp, ?_, ?_, ?_⟩<;>intro a b<;>cases a<;>cases b<;>simp
def wrapI'{n:Int}(h1:-9223372036854775808<=n)(h2:n<=9223372036854775807):La.wrap n=n:=IntWalk.i64_in n ⟨h1,h2⟩
def wrapU'{n:Int}(h1:0<=n)(h2:n<=18446744073709551615):Ld.wrap n=n:=IntWalk.u64_in n ⟨h1,h2⟩
def wrapI2{n m:Int}(e:n=m)(h1:-9223372036854775808<=m)(h2:m<=9223372036854775807):La.wrap n=m:=e▸wrapI' (e▸h1) (e▸h2)
def wrapU2{n m:Int}(e:n=m)(h1:0<=m)(h2:m<=18446744073709551615):Ld.wrap n=m:=e▸wrapU' (e▸h1) (e▸h2)
def wrap32(n:Int):Le.wrap n=n%4294967296:=by rw[Lj]
def ZbU{n:Int}(h1:0<=n)(h2:n<=4294967295):Le.wrap n=n:=by rw[wrap32];omega
def Z5U{a b m:Int}(e:b=m)(h:0<=m):a.fdiv b=a/m:=by rw[e];exact Int.fdiv_eq_ediv_of_nonneg a h
def Z3G(k:Nat)(hk:k<=63){x m:Int}(e:m=2^k-1)(h0:0<=x)(h1:x<=18446744073709551615):bits .and .u64 x m=x%2^k:=by
 have hp:(2:Nat)^k<=2^63:=Lp dd hk;have hp0:1<=(2:Nat)^k:=Lo;have h:=bits_and_u64_nat x.toNat (2^k-1) oq oq
 rw[Lm,Lc h0]at h;have e2:(((2:Nat)^k-1:Nat):Int)=m:=by rw[e];push_cast [hp0];rfl
 rw[e2]at h;rw[h,Li,Lc h0];simp
def bits_and_u32_nat(a b:Nat)(ha:a<4294967296)(hb:b<4294967296):bits .and .u32 (a:Int) (b:Int)=((a &&& b:Nat):Int):=by
 have hx:a &&& b<2^32:=Nat.and_lt_two_pow _ oq;have h1:(Lb 32 (a:Int)).toNat=a:=by
  rw[Lg,Lh];exact Ln oq
 have h2:(Lb 32 (b:Int)).toNat=b:=by
  rw[Lg,Lh];exact Ln oq
 show Le.wrap ((Lb 32 (a:Int) &&& Lb 32 (b:Int)).toNat:Int)=_;rw[BitVec.toNat_and,h1,h2,Lj];omega
def Zgr(k:Nat)(hk:k<=31){x m:Int}(e:m=2^k-1)(h0:0<=x)(h1:x<=4294967295):bits .and .u32 x m=x%2^k:=by
 have hp:(2:Nat)^k<=2^31:=Lp dd hk;have hp0:1<=(2:Nat)^k:=Lo;have h:=bits_and_u32_nat x.toNat (2^k-1) oq oq
 rw[Lm,Lc h0]at h;have e2:(((2:Nat)^k-1:Nat):Int)=m:=by rw[e];push_cast [hp0];rfl
 rw[e2]at h;rw[h,Li,Lc h0];simp
def Z4k(l:List Int):Z1s (l.map wdv):=by
 intro e he x hx;obtain⟨y,_,rfl⟩:=Lk.1 he;simp[wdv]at hx;exact⟨_,hx⟩
def Zff(l:List Int):Z1s (l.map idv):=by
 intro e he x hx;obtain⟨y,_,rfl⟩:=Lk.1 he;simp[idv]at hx;exact⟨_,hx⟩
def Z0Y{α:Type}{f:α->List DV}{l:List α}{n:Nat}{d:α}(h:n<l.length):(l.map f)[n]? = L (f (l.getD n d)):=by
 simp[List.getD,h]
def elI{α:Type}{f:α->List DV}{l:List α}{n:Int}{k:Nat}{d:α}(h0:0<=n)(e:n.toNat=k)(h:k<l.length):0<=n/\(l.map f)[n.toNat]? = L (f (l.getD k d)):=by
 subst e;exact⟨h0,Z0Y h⟩
def an{a b:Prop}(x:a)(y:b):a/\b:=⟨x,y⟩
def rf{α:Type}(a:α):a=a:=rfl
def tt:X=X:=rfl
def nl:([]:List (List DV))=[]:=rfl
abbrev bT(n:Nat):Nat×List Hint:=(n,[.br X])
abbrev bF(n:Nat):Nat×List Hint:=(n,[.br Z])
def bo(p:Prop)(h:p:=by(simp only[bs];first | (dsimp+zetaDelta only;omega) | omega | (simp only[List.length_cons,List.length_nil];omega))):p:=h
def om(p:Prop)(h:p:=by first | (dsimp+zetaDelta only;omega) | omega | (simp only[List.length_cons,List.length_nil];omega)):p:=h
def lm(p:Prop)(h:p:=by simp only[List.length_map]):p:=h
def wI(p:Prop)(h:p:=by exact wrapI2 rfl oq oq):p:=h
def wU(p:Prop)(h:p:=by exact wrapU2 rfl oq oq):p:=h
def eI(p:Prop)(h:p:=by exact elI oq oq oq):p:=h
def cutOf{P:Program}{fn:Func}{n:Nat}{pre:Tg}{e:Ex}{post:Tg}(_:CSpec P (blkF fn n) pre.st e post.st):Nat×Tg×Ex×Tg:=(n,pre,e,post)
def gE{P:Program}{f:Nat}{fn:Func}{args:List AV}{fr:Bool}{res:AV}{news:List Blk}(hints:List (Nat×List Hint))(cuts:List (Nat×Tg×Ex×Tg))(keep:List Nat)
  (hf:P.funcs[f]? = L fn) (fl:List Bool) {φ:Prop} (hφ:φ) (h1:oblE fl (runF P hints cuts keep fn args fr res news)=φ:=by kernel_rfl) (h2:lefE fl (runF P hints cuts keep fn args fr res news)=rigE fl (runF P hints cuts keep fn args fr res news):=by kernel_rfl) (hk:keep.Nodup:=by decide):GSpec P f args fr res news :=
 gspec_ofE hints cuts keep hk hf fl hφ h1 h2
def sE{P:Program}(hints:List (Nat×List Hint))(cuts:List (Nat×Tg×Ex×Tg))(ren:List (Nat×Nat))(fl:List Bool){c:Code}{s:St}{e:Ex}{t:Tg}{φ:Prop}(hφ:φ)
  (h1:oblE fl (runToR P hints cuts ren c s t)=φ:=by kernel_rfl) (h2:lefE fl (runToR P hints cuts ren c s t)=rigE fl (runToR P hints cuts ren c s t):=by kernel_rfl) (h3:exO (runToR P hints cuts ren c s t)=L e:=by kernel_rfl):CSpec P c s e t.st :=
 stretchE hints cuts ren fl hφ h1 h2 h3
abbrev zW:List AV:=[int 0, int 0,.d (.sl 0 []),.d (.sl 0 []),int 0,int 0,.d (.sl 0 []),.d (.sl 0 []),.d (.sl 0 []),int 0,int 0,int 0,int 0,int 0,int 0,int 0]
def bb:∀ b:Bool,b=X\/b=Z:=Bool.eq_false_or_eq_true
structure Fq (hs:List (Nat×List Hint)) (cs:List (Nat×Tg×Ex×Tg)) (φ:Prop):Prop where p:φ
def andT:List Prop->Prop
 | []=>True
 | p::l=>p/\andT l
def andT_all:∀ {l:List Prop},andT l->allP l
 | [],_=>trivial
 | _::_,h=>allP_cons.2 ⟨h.1,andT_all h.2⟩
def oblF(fl:List Bool):Option Run->Prop
 | some r=>andT (r.ph++selP fl r.eq)
 | none=>False
def oblF_E{fl:List Bool}:∀ {r:Option Run},oblF fl r->oblE fl r
 | some _,h=>andT_all h
section
variable {hs:List (Nat×List Hint)} {cs:List (Nat×Tg×Ex×Tg)} {φ:Prop}
theorem Fz:Fq [] [] True:=⟨trivial⟩
theorem Fa{a:Prop}(h:a)(r:Fq hs cs φ):Fq hs cs (a/\φ):=⟨h,r.p⟩
theorem Fh(n:Nat)(l:List Hint)(r:Fq hs cs φ):Fq ((n,l)::hs) cs φ:=⟨r.p⟩
theorem Fk(c:Nat×Tg×Ex×Tg)(r:Fq hs cs φ):Fq hs (c::cs) φ:=⟨r.p⟩
theorem Fc(n:Nat){P:Program}{f:Nat}{args:List AV}{fr:Bool}{res:AV}{news:List Blk}(h:GSpec P f args fr res news)(r:Fq hs cs φ):Fq ((n,[.call fr res news])::hs) cs (GSpec P f args fr res news/\φ):=⟨h,r.p⟩
theorem Fu{P:Program}{fn:Func}{n:Nat}{pre:Tg}{e:Ex}{post:Tg}(h:CSpec P (blkF fn n) pre.st e post.st)(r:Fq hs cs φ):Fq hs ((n,pre,e,post)::cs) (CSpec P (blkF fn n) pre.st e post.st/\φ):=⟨h,r.p⟩
theorem Ftt(r:Fq hs cs φ):Fq hs cs (X=X/\φ):=⟨rfl,r.p⟩
theorem Fff(r:Fq hs cs φ):Fq hs cs (Z=Z/\φ):=⟨rfl,r.p⟩
theorem Fnl(r:Fq hs cs φ):Fq hs cs (([]:List (List DV))=[]/\φ):=⟨rfl,r.p⟩
theorem Fr{α:Type}(a:α)(r:Fq hs cs φ):Fq hs cs (a=a/\φ):=⟨rfl,r.p⟩
theorem Fo(p:Prop)(r:Fq hs cs φ)(h:p:=by first | (dsimp+zetaDelta only;omega) | omega | (simp only[List.length_cons,List.length_nil];omega)):Fq hs cs (p/\φ):=⟨h,r.p⟩
theorem Fb(p:Prop)(r:Fq hs cs φ)(h:p:=by(simp only[bs];first | (dsimp+zetaDelta only;omega) | omega | (simp only[List.length_cons,List.length_nil];omega))):Fq hs cs (p/\φ):=⟨h,r.p⟩
theorem Ft(n:Nat){b:Bool}(h:b=X)(r:Fq hs cs φ):Fq ((n,[.br X])::hs) cs (b=X/\X=X/\φ):=⟨h,rfl,r.p⟩
theorem Ff(n:Nat){b:Bool}(h:b=Z)(r:Fq hs cs φ):Fq ((n,[.br Z])::hs) cs (b=Z/\Z=Z/\φ):=⟨h,rfl,r.p⟩
theorem Ftb(n:Nat)(b:Bool)(r:Fq hs cs φ)(h:b=X:=by(simp only[bs];first | (dsimp+zetaDelta only;omega) | omega | (simp only[List.length_cons,List.length_nil];omega))):Fq ((n,[.br X])::hs) cs (b=X/\X=X/\φ):=⟨h,rfl,r.p⟩
theorem Ffb(n:Nat)(b:Bool)(r:Fq hs cs φ)(h:b=Z:=by(simp only[bs];first | (dsimp+zetaDelta only;omega) | omega | (simp only[List.length_cons,List.length_nil];omega))):Fq ((n,[.br Z])::hs) cs (b=Z/\Z=Z/\φ):=⟨h,rfl,r.p⟩
theorem Fg(n:Nat){a b:Int}(h:a=b)(r:Fq hs cs φ):Fq ((n,[.int b])::hs) cs (a=b/\φ):=⟨h,r.p⟩
theorem Fgo(n:Nat)(a b:Int)(r:Fq hs cs φ)(h:a=b:=by first | (dsimp+zetaDelta only;omega) | omega | (simp only[List.length_cons,List.length_nil];omega)):Fq ((n,[.int b])::hs) cs (a=b/\φ):=⟨h,r.p⟩
theorem Fi(n:Nat)(x:Int)(r:Fq hs cs φ)(h1:-9223372036854775808<=x:=by first | (dsimp+zetaDelta only;omega) | omega | (simp only[List.length_cons,List.length_nil];omega))(h2:x<=9223372036854775807:=by first | (dsimp+zetaDelta only;omega) | omega | (simp only[List.length_cons,List.length_nil];omega)):Fq ((n,[.int x])::hs) cs (La.wrap x=x/\φ):=⟨wrapI' h1 h2,r.p⟩
theorem Fv(n:Nat)(x:Int)(r:Fq hs cs φ)(h1:0<=x:=by first | (dsimp+zetaDelta only;omega) | omega | (simp only[List.length_cons,List.length_nil];omega))(h2:x<=18446744073709551615:=by first | (dsimp+zetaDelta only;omega) | omega | (simp only[List.length_cons,List.length_nil];omega)):Fq ((n,[.int x])::hs) cs (Ld.wrap x=x/\φ):=⟨wrapU' h1 h2,r.p⟩
theorem Fl(n:Nat){α:Type}(f:α->List DV)(l:List α)(r:Fq hs cs φ):Fq ((n,[.int (l.length:Int)])::hs) cs (((l.map f).length:Int)=(l.length:Int)/\φ):=⟨by simp only[O],r.p⟩
theorem Fek(n:Nat){α:Type}[Inhabited α](f:α->List DV)(l:List α)(i:Int)(k:Nat)(r:Fq hs cs φ)(h0:0<=i:=by first | (dsimp+zetaDelta only;omega) | omega | (simp only[List.length_cons,List.length_nil];omega))(e:i.toNat=k:=by first | (dsimp+zetaDelta only;omega) | omega | (simp only[List.length_cons,List.length_nil];omega))(h:k<l.length:=by first | (dsimp+zetaDelta only;omega) | omega | (simp only[List.length_cons,List.length_nil];omega)):Fq ((n,[.el (f (l.getD k M))])::hs) cs ((0<=i/\(l.map f)[i.toNat]? = L (f (l.getD k M)))/\φ):=⟨elI h0 e h,r.p⟩
theorem Fe(n:Nat){α:Type}[Inhabited α](f:α->List DV)(l:List α)(i:Int)(r:Fq hs cs φ)(h0:0<=i:=by first | (dsimp+zetaDelta only;omega) | omega | (simp only[List.length_cons,List.length_nil];omega))(h:i.toNat<l.length:=by first | (dsimp+zetaDelta only;omega) | omega | (simp only[List.length_cons,List.length_nil];omega)):Fq ((n,[.el (f (l.getD i.toNat M))])::hs) cs ((0<=i/\(l.map f)[i.toNat]? = L (f (l.getD i.toNat M)))/\φ):=⟨elI h0 rfl h,r.p⟩
theorem Fs(n:Nat)(a:List (List DV))(r:Fq hs cs φ):Fq ((n,[.els a])::hs) cs (a=a/\φ):=⟨rfl,r.p⟩
theorem Fx(n:Nat)(i:Nat)(r:Fq hs cs φ)(h:(i:Int)+1<=9223372036854775807:=by first | (dsimp+zetaDelta only;omega) | omega | (simp only[List.length_cons,List.length_nil];omega)):Fq ((n,[.int ((i+1:Nat):Int)])::hs) cs (La.wrap ((i:Int)+1)=((i+1:Nat):Int)/\φ):=⟨wrapI2 rfl oq oq,r.p⟩
theorem Fw(n:Nat)(a b:Int)(r:Fq hs cs φ)(h:a=b:=by first | (dsimp+zetaDelta only;omega) | omega | (simp only[List.length_cons,List.length_nil];omega))(h1:-9223372036854775808<=b:=by first | (dsimp+zetaDelta only;omega) | omega | (simp only[List.length_cons,List.length_nil];omega))(h2:b<=9223372036854775807:=by first | (dsimp+zetaDelta only;omega) | omega | (simp only[List.length_cons,List.length_nil];omega)):Fq ((n,[.int b])::hs) cs (La.wrap a=b/\φ):=⟨by rw[h];exact wrapI' h1 h2,r.p⟩
theorem FiG(n:Nat)(c:Bool)(x:Int)(r:Fq hs cs φ)(h:c=X->-9223372036854775808<=x/\x<=9223372036854775807:=by intro hg;(try simp only[bs]at hg);first | (dsimp+zetaDelta only at hg ⊢;omega) | omega):Fq ((n,[.int x])::hs) cs ((c=X->La.wrap x=x)/\φ):=⟨λq=>wrapI' (h q).1 (h q).2,r.p⟩
theorem FvG(n:Nat)(c:Bool)(x:Int)(r:Fq hs cs φ)(h:c=X->0<=x/\x<=18446744073709551615:=by intro hg;(try simp only[bs]at hg);first | (dsimp+zetaDelta only at hg ⊢;omega) | omega):Fq ((n,[.int x])::hs) cs ((c=X->Ld.wrap x=x)/\φ):=⟨λq=>wrapU' (h q).1 (h q).2,r.p⟩
theorem FlG(n:Nat)(c:Bool){α:Type}(f:α->List DV)(l:List α)(r:Fq hs cs φ):Fq ((n,[.int (l.length:Int)])::hs) cs ((c=X->((l.map f).length:Int)=(l.length:Int))/\φ):=⟨λ_=>by simp only[O],r.p⟩
theorem FeG(n:Nat)(c:Bool){α:Type}[Inhabited α](f:α->List DV)(l:List α)(i:Int)(k:Nat)(r:Fq hs cs φ)(h:c=X->0<=i/\i.toNat=k/\k<l.length:=by intro hg;(try simp only[bs]at hg);first | (dsimp+zetaDelta only at hg ⊢;omega) | omega):Fq ((n,[.el (f (l.getD k M))])::hs) cs ((c=X->0<=i/\(l.map f)[i.toNat]? = L (f (l.getD k M)))/\φ):=⟨λq=>elI (h q).1 (h q).2.1 (h q).2.2,r.p⟩
theorem el2{α:Type}[Inhabited α](f:α->List DV){l:List α}{i:Int}{k:Nat}(h:i.toNat=k/\k<l.length):(l.map f)[i.toNat]? = L (f (l.getD k M)):=by
 rw[h.1,List.getElem?_map,List.getD_eq_getElem?_getD,List.getElem?_eq_getElem h.2];rfl
theorem Fm0{α:Type}[Inhabited α](f:α->List DV)(l:List α)(i:Int)(k:Nat)(r:Fq hs cs φ)(h:0<=i/\i.toNat=k/\k<l.length:=by first | (dsimp+zetaDelta only;omega) | omega | (simp only[List.length_cons,List.length_nil];omega)):Fq hs cs ((0<=i/\i.toNat<(l.map f).length)/\(l.map f)[i.toNat]? = L (f (l.getD k M))/\φ):=⟨⟨h.1,by rw[O];omega⟩,el2 f h.2,r.p⟩
theorem Fm(n:Nat){α:Type}[Inhabited α](f:α->List DV)(l:List α)(i:Int)(k:Nat)(r:Fq hs cs φ)(h:0<=i/\i.toNat=k/\k<l.length:=by first | (dsimp+zetaDelta only;omega) | omega | (simp only[List.length_cons,List.length_nil];omega)):Fq ((n,[.el (f (l.getD k M))])::hs) cs ((0<=i/\i.toNat<(l.map f).length)/\(l.map f)[i.toNat]? = L (f (l.getD k M))/\φ):=⟨⟨h.1,by rw[O];omega⟩,el2 f h.2,r.p⟩
theorem FmG(n:Nat)(c:Bool){α:Type}[Inhabited α](f:α->List DV)(l:List α)(i:Int)(k:Nat)(r:Fq hs cs φ)(h:c=X->0<=i/\i.toNat=k/\k<l.length:=by intro hg;(try simp only[bs]at hg);first | (dsimp+zetaDelta only at hg ⊢;omega) | omega):Fq ((n,[.el (f (l.getD k M))])::hs) cs ((c=X->0<=i/\i.toNat<(l.map f).length)/\(c=X->(l.map f)[i.toNat]? = L (f (l.getD k M)))/\φ):=⟨λq=>⟨(h q).1,by rw[O];have:=h q;omega⟩,λq=>el2 f (h q).2,r.p⟩
theorem FS(n:Nat){α:Type}(f:α->List DV)(l:List α)(i:Nat)(p:α)(e:List DV)(r:Fq hs cs φ):Fq ((n,[.el e,.els ((l.set i p).map f)])::hs) cs ((l.map f).set i (f p)=(l.set i p).map f/\φ):=⟨by rw[List.map_set],r.p⟩
theorem FcG(n:Nat)(c:Bool){P:Program}{f:Nat}{args:List AV}{fr:Bool}{res:AV}{news:List Blk}(h:c=X->GSpec P f args fr res news)(r:Fq hs cs φ):Fq ((n,[.call fr res news])::hs) cs ((c=X->GSpec P f args fr res news)/\φ):=⟨h,r.p⟩
theorem gF{P:Program}{f:Nat}{fn:Func}{args:List AV}{fr:Bool}{res:AV}{news:List Blk}(keep:List Nat)(hf:P.funcs[f]? = L fn)(fl:List Bool)(h:Fq hs cs φ)
  (h1:oblF fl (runF P hs cs keep fn args fr res news)=φ:=by kernel_rfl) (h2:lefE fl (runF P hs cs keep fn args fr res news)=rigE fl (runF P hs cs keep fn args fr res news):=by kernel_rfl) (hk:keep.Nodup:=by decide):GSpec P f args fr res news :=
 gspec_ofE hs cs keep hk hf fl (oblF_E (Eq.mpr h1 h.p)) rfl h2
theorem sF{P:Program}(ren:List (Nat×Nat))(fl:List Bool){c:Code}{s:St}{e:Ex}{t:Tg}(h:Fq hs cs φ)
  (h1:oblF fl (runToR P hs cs ren c s t)=φ:=by kernel_rfl) (h2:lefE fl (runToR P hs cs ren c s t)=rigE fl (runToR P hs cs ren c s t):=by kernel_rfl) (h3:exO (runToR P hs cs ren c s t)=L e:=by kernel_rfl):CSpec P c s e t.st :=
 stretchE hs cs ren fl (oblF_E (Eq.mpr h1 h.p)) rfl h2 h3
end
abbrev fO(n:Nat):List Bool:=Ll n Z++[X]
abbrev fP(n:Nat):List Bool:=Ll n Z++[X,X]
section
variable {hs:List (Nat×List Hint)} {cs:List (Nat×Tg×Ex×Tg)} {φ:Prop}
theorem Fts(n:Nat)(b:Bool)(r:Fq hs cs φ)(h:b=X:=by simp only[bs, *,true_or,or_true,true_and,and_true,not_true_eq_false,not_false_eq_true,Bool.true_eq_false,Bool.false_eq_true]):Fq ((n,[.br X])::hs) cs (b=X/\X=X/\φ):=⟨h,rfl,r.p⟩
theorem Ffs(n:Nat)(b:Bool)(r:Fq hs cs φ)(h:b=Z:=by simp only[bs, *,true_or,or_true,true_and,and_true,not_true_eq_false,not_false_eq_true,Bool.true_eq_false,Bool.false_eq_true]):Fq ((n,[.br Z])::hs) cs (b=Z/\Z=Z/\φ):=⟨h,rfl,r.p⟩
theorem Fbs(p:Prop)(r:Fq hs cs φ)(h:p:=by simp only[bs, *,true_or,or_true,true_and,and_true,not_true_eq_false,not_false_eq_true,Bool.true_eq_false,Bool.false_eq_true]):Fq hs cs (p/\φ):=⟨h,r.p⟩
theorem FAx(n m:Nat){α:Type}(f:α->List DV)(l:List α)(h:(Y f []).length+(Y f l).length<=2^30)(r:Fq hs cs φ):Fq ((n,[.els (Y f [])])::(m,[.els (Y f l)])::hs) cs (Y f []=Y f []/\((Y f []).length+(Y f l).length<=2^30)/\Y f l=Y f l/\φ):=⟨rfl,h,rfl,r.p⟩
theorem FA(n m:Nat){α:Type}(f:α->List DV)(l:List α)(r:Fq hs cs φ)(h:l.length<=1073741824:=by first | omega | (simp[*];omega)):Fq ((n,[.els (Y f [])])::(m,[.els (Y f l)])::hs) cs (Y f []=Y f []/\((Y f []).length+(Y f l).length<=2^30)/\Y f l=Y f l/\φ) :=
 FAx n m f l (by rw[O,O];simpa using h) r
theorem FBx(m k:Nat){α:Type}(f:α->List DV)(l:List α)(x:α)(h:(Y f l).length+(Y f [x]).length<=2^30)(r:Fq hs cs φ):Fq ((m,[.els (Y f [x])])::(k,[.els (Y f (l++[x]))])::hs) cs (Y f [x]=Y f [x]/\((Y f l).length+(Y f [x]).length<=2^30)/\Y f l++Y f [x]=Y f (l++[x])/\φ):=⟨rfl,h,List.map_append.symm,r.p⟩
theorem FB(m k:Nat){α:Type}(f:α->List DV)(l:List α)(x:α)(r:Fq hs cs φ)(h:l.length<1073741824:=by first | omega | (simp[*];omega)):Fq ((m,[.els (Y f [x])])::(k,[.els (Y f (l++[x]))])::hs) cs (Y f [x]=Y f [x]/\((Y f l).length+(Y f [x]).length<=2^30)/\Y f l++Y f [x]=Y f (l++[x])/\φ) :=
 FBx m k f l x (by rw[O,O];simp only[List.length_cons,List.length_nil];omega) r
theorem FM(a b:Nat){α:Type}(f:α->List DV)(l:List α)(i:Nat)(r:Fq hs cs φ)(h:i<l.length:=by first | (dsimp+zetaDelta only;omega) | omega | (simp only[List.length_cons,List.length_nil];omega)):Fq ((a,[.int (l.length:Int)])::(b,[.br X])::hs) cs (((l.map f).length:Int)=(l.length:Int)/\decide ((i:Int)<(l.length:Int))=X/\X=X/\φ):=⟨by rw[O],decide_eq_true oq,rfl,r.p⟩
theorem FN(a b c:Nat){α:Type}[Inhabited α](f:α->List DV)(l:List α)(i:Nat)(r:Fq hs cs φ)(h:i<l.length:=by first | (dsimp+zetaDelta only;omega) | omega | (simp only[List.length_cons,List.length_nil];omega)):Fq ((a,[.int (l.length:Int)])::(b,[.br X])::(c,[.el (f (l.getD i M))])::hs) cs (((l.map f).length:Int)=(l.length:Int)/\decide ((i:Int)<(l.length:Int))=X/\X=X/\(0<=(i:Int)/\(l.map f)[(i:Int).toNat]? = L (f (l.getD i M)))/\φ):=⟨by rw[O],decide_eq_true oq,rfl,elI oq oq h,r.p⟩
theorem FO(a b:Nat){α:Type}(f:α->List DV)(l:List α)(r:Fq hs cs φ):Fq ((a,[.int (l.length:Int)])::(b,[.br Z])::hs) cs (((l.map f).length:Int)=(l.length:Int)/\decide ((l.length:Int)<(l.length:Int))=Z/\Z=Z/\φ):=⟨by rw[O],decide_eq_false oq,rfl,r.p⟩
theorem Fm0q{α:Type}[Inhabited α](f:α->List DV)(l:List α)(i:Int)(r:Fq hs cs φ)(h:0<=i/\i.toNat<l.length:=by first | (dsimp+zetaDelta only;omega) | omega | (simp only[List.length_cons,List.length_nil];omega)):Fq hs cs ((0<=i/\i.toNat<(l.map f).length)/\(l.map f)[i.toNat]? = L (f (l.getD i.toNat M))/\φ):=Fm0 f l i i.toNat r ⟨h.1,rfl,h.2⟩
theorem Fmq(n:Nat){α:Type}[Inhabited α](f:α->List DV)(l:List α)(i:Int)(r:Fq hs cs φ)(h:0<=i/\i.toNat<l.length:=by first | (dsimp+zetaDelta only;omega) | omega | (simp only[List.length_cons,List.length_nil];omega)):Fq ((n,[.el (f (l.getD i.toNat M))])::hs) cs ((0<=i/\i.toNat<(l.map f).length)/\(l.map f)[i.toNat]? = L (f (l.getD i.toNat M))/\φ):=Fm n f l i i.toNat r ⟨h.1,rfl,h.2⟩
theorem FmGq(n:Nat)(c:Bool){α:Type}[Inhabited α](f:α->List DV)(l:List α)(i:Int)(r:Fq hs cs φ)(h:c=X->0<=i/\i.toNat<l.length:=by intro hg;(try simp only[bs]at hg);first | (dsimp+zetaDelta only at hg ⊢;omega) | omega):Fq ((n,[.el (f (l.getD i.toNat M))])::hs) cs ((c=X->0<=i/\i.toNat<(l.map f).length)/\(c=X->(l.map f)[i.toNat]? = L (f (l.getD i.toNat M)))/\φ):=FmG n c f l i i.toNat r (λq=>⟨(h q).1,rfl,(h q).2⟩)
theorem FeGq(n:Nat)(c:Bool){α:Type}[Inhabited α](f:α->List DV)(l:List α)(i:Int)(r:Fq hs cs φ)(h:c=X->0<=i/\i.toNat<l.length:=by intro hg;(try simp only[bs]at hg);first | (dsimp+zetaDelta only at hg ⊢;omega) | omega):Fq ((n,[.el (f (l.getD i.toNat M))])::hs) cs ((c=X->0<=i/\(l.map f)[i.toNat]? = L (f (l.getD i.toNat M)))/\φ):=FeG n c f l i i.toNat r (λq=>⟨(h q).1,rfl,(h q).2⟩)
theorem Fe2(c:Bool){α:Type}[Inhabited α](f:α->List DV)(l:List α)(i:Int)(k:Nat)(r:Fq hs cs φ)(h:c=X->0<=i/\i.toNat=k/\k<l.length:=by intro hg;(try simp only[bs]at hg);first | (dsimp+zetaDelta only at hg ⊢;omega) | omega):Fq hs cs ((c=X->0<=i/\(l.map f)[i.toNat]? = L (f (l.getD k M)))/\φ):=⟨(FeG 0 c f l i k r h).p.1,r.p⟩
theorem Fe2q(c:Bool){α:Type}[Inhabited α](f:α->List DV)(l:List α)(i:Int)(r:Fq hs cs φ)(h:c=X->0<=i/\i.toNat<l.length:=by intro hg;(try simp only[bs]at hg);first | (dsimp+zetaDelta only at hg ⊢;omega) | omega):Fq hs cs ((c=X->0<=i/\(l.map f)[i.toNat]? = L (f (l.getD i.toNat M)))/\φ):=⟨(FeGq 0 c f l i r h).p.1,r.p⟩
theorem Fm2(c:Bool){α:Type}[Inhabited α](f:α->List DV)(l:List α)(i:Int)(k:Nat)(r:Fq hs cs φ)(h:c=X->0<=i/\i.toNat=k/\k<l.length:=by intro hg;(try simp only[bs]at hg);first | (dsimp+zetaDelta only at hg ⊢;omega) | omega):Fq hs cs ((c=X->0<=i/\i.toNat<(l.map f).length)/\(c=X->(l.map f)[i.toNat]? = L (f (l.getD k M)))/\φ):=(⟨(FmG 0 c f l i k r h).p⟩:Fq hs cs _)
theorem Fm2q(c:Bool){α:Type}[Inhabited α](f:α->List DV)(l:List α)(i:Int)(r:Fq hs cs φ)(h:c=X->0<=i/\i.toNat<l.length:=by intro hg;(try simp only[bs]at hg);first | (dsimp+zetaDelta only at hg ⊢;omega) | omega):Fq hs cs ((c=X->0<=i/\i.toNat<(l.map f).length)/\(c=X->(l.map f)[i.toNat]? = L (f (l.getD i.toNat M)))/\φ):=(⟨(FmGq 0 c f l i r h).p⟩:Fq hs cs _)
end
section
variable {hs:List (Nat×List Hint)} {cs:List (Nat×Tg×Ex×Tg)} {φ0:Prop}
theorem Fbr(n:Nat)(ls:List Nat){P:Program}{f:Nat}{args:List AV}{pre:List Blk}{res:AV}{post:List Blk}(h:BorSpec P f args pre res post)(r:Fq hs cs φ0):Fq ((n,[.bor ls res post])::hs) cs (BorSpec P f args pre res post/\φ0):=⟨h,r.p⟩
theorem Fbq(n:Nat)(ls:List Nat){P:Program}{f:Nat}{args:List AV}{pre:List Blk}{res:AV}{post:List Blk}(h:BorSpec P f args pre res post)(r:Fq hs cs φ0):Fq ((n,[.bor ls res []])::hs) cs (BorSpec P f args pre res post/\φ0):=⟨h,r.p⟩
theorem Fp(n:Nat){P:Program}{f:Nat}{args:List AV}{pre:List Blk}{res:AV}{post:List Blk}(h:BorSpec P f args pre res post)(r:Fq hs cs φ0):Fq ((n,[.bor [0] res post])::hs) cs (BorSpec P f args pre res post/\φ0):=⟨h,r.p⟩
end
def sj{p:Prop}(h:p:=by((repeat' split)<;>first | rfl | omega | (exfalso;omega) | simp_all)):p:=h
def ms{p:Prop}(h:p:=by simp[List.map_take,List.map_drop,List.map_set,List.map_append,wdv,idv]):p:=h
end Go.Sx
