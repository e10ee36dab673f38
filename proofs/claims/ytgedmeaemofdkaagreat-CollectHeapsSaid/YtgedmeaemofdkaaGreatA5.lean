/-
 The statement CollectHeaps: part 5.
 Conditions: none.
-/
import Derived.Laws.Bits64b
import Derived.Test.YtgedmeaemofdkaaGreatA4
set_option maxRecDepth 100000
set_option maxHeartbeats 2000000
set_option linter.all false
open Bool renaming true->U,false->Y
open List renaming map->X,length_map->M,map_cons->Ld,mem_map->Li,replicate->Lj
open Inhabited renaming default->Z
open Option renaming some->N
open Go.IntKind renaming i64->L,u64->Lb,u32->Lc,wrap_u32->Lh
open BitVec renaming ofInt->O,ofInt_natCast->Le,toNat_ofNat->Lf
open Int renaming toNat_of_nonneg->La,natCast_emod->Lg
open Nat renaming and_two_pow_sub_one_eq_mod->Lk,mod_eq_of_lt->Ll,one_le_two_pow->Lm,pow_le_pow_right->Ln
namespace Go.Sx
def Z2N:DV->DV->List Prop|.sc (.int k a),.sc (.int k' b)=>if To k k' then [a=b]else [DV.sc (.int k a)=.sc (.int k' b)]|.sc (.bool a),.sc (.bool b)=>[a=b]|.sl s a,.sl s' b=>if s=s' then [a=b]else [DV.sl s a=.sl s' b]|x,y=>[x=y]
def TU:AV->AV->List Prop|.d x,.d y=>Z2N x y|x,y=>[x=y]
def eqL(f:AV->AV->List Prop):List AV->List AV->List Prop|a::l,b::m=>f a b++eqL f l m|[],[]=>[]|l,m=>[l=m]
def eqA:AV->AV->List Prop|.ag l,.ag m=>eqL TU l m|.tu l,.tu m=>eqL TU l m|x,y=>TU x y
def eqT:AV->AV->List Prop|.tu l,.tu m=>eqL eqA l m|x,y=>eqA x y
def ZiW{x y}(h:B3 (Z2N x y)):x=y:=by unfold Z2N at h;split at h;split at h;rename_i a;have:=Z2Q a;simp only[B3]at h;rw[this,h];exact h;simp only[B3]at h;rw[h];split at h;rename_i a;simp only[B3]at h;rw[a,h];exact h;exact h
def Z2d{x y}(h:B3 (TU x y)):x=y:=by unfold TU at h;split at h;rw[ZiW h];exact h
def Z0E{f:AV->AV->List Prop}(c:∀x y,B3 (f x y)->x=y):∀{l m:List AV},B3 (eqL f l m)->l=m
 |[],[],_=>rfl
 |a::l,b::m,h=>by
  obtain⟨d,e⟩:=GZ.1 h;rw[c a b d,Z0E c e]
 |[],b::m,h=>h
 |a::l,[],h=>h
def Z5L{x y}(h:B3 (eqA x y)):x=y:=by unfold eqA at h;split at h;rw[Z0E (λ_ _=>Z2d) h];rw[Z0E (λ_ _=>Z2d) h];exact Z2d h
def ZfU{x y}(h:B3 (eqT x y)):x=y:=by unfold eqT at h;split at h;rw[Z0E (λ_ _=>Z5L) h];exact Z5L h
def My:List Bool->List (AV×AV)->List Prop|true::fl,p::l=>eqT p.1 p.2++My fl l|false::fl,_::l=>My fl l|_,_=>[]
def An:List Bool->List (AV×AV)->List (AV×AV)|true::fl,_::l=>An fl l|false::fl,p::l=>p::An fl l|_,l=>l
def Z13:∀{fl:List Bool} {l:List (AV×AV)},B3 (My fl l)->(An fl l).map (·.1)=(An fl l).map (·.2)->l.map (·.1)=l.map (·.2)
 |[],l,_,h=>by cases l<;>exact h
 |true::fl,[],_,_=>rfl
 |false::fl,[],_,_=>rfl
 |true::fl,p::l,h,k=>by
  obtain⟨a,b⟩:=GZ.1 h;simp only[Ld,ZfU a,Z13 b k]
 |false::fl,p::l,h,k=>by
  simp only[An,Ld,List.cons.injEq]at k;simp only[Ld,k.1,Z13 (fl:=fl) h k.2]
def Rs(fl:List Bool):Option ZI->Prop|some r=>B3 (r.ph++My fl r.eq)|none=>False
def IF(fl:List Bool):Option ZI->List AV|some r=>(An fl r.eq).map (·.1)|none=>[]
def IJ(fl:List Bool):Option ZI->List AV|some r=>(An fl r.eq).map (·.2)|none=>[]
def TV{fl r}(h:Rs fl r)(k:IF fl r=IJ fl r):Ol r/\Z0w r=P1 r:=by
 cases r with|none=>exact h.elim|some r =>obtain⟨a,b⟩:=GZ.1 h;exact⟨a,Z13 b k⟩
def Zb{P:Program}{f:Nat}{fn args fr res news}(hints:List (Nat×List Hint)) a(keep:List Nat)(b:keep.Nodup)(g:P.funcs[f]?=N fn) fl{φ:Prop}(c:φ)(d:Rs fl (I7 P hints a keep fn args fr res news)=φ)(e:IF fl (I7 P hints a keep fn args fr res news)=IJ fl (I7 P hints a keep fn args fr res news)):GSpec P f args fr res news:=by rw[<-d]at c;obtain⟨k1,h⟩:=TV c e;exact ZhV hints a keep b g k1 rfl h
def Zh{P}(hints:List (Nat×List Hint)) a b fl{c s e t}{φ:Prop}(d:φ)(f:Rs fl (Eu P hints a b c s t)=φ)(g:IF fl (Eu P hints a b c s t)=IJ fl (Eu P hints a b c s t))(h:exO (Eu P hints a b c s t)=N e):CSpec P c s e t.st:=by rw[<-f]at d;obtain⟨k1,i⟩:=TV d g;exact ZaO hints a b k1 rfl i h
def G2(P:Program)(fn:Func)(b:Nat)(s:St)(e:Ex)(t:St):Prop:=∃k,IR P (Zl fn b) k s e t
def G2.next{P fn b s a t e}(h:CSpec P (Zl fn b) s .nrm a)(k:G2 P fn b a e t):G2 P fn b s e t:=let ⟨n,k⟩:=k;⟨n+1,rounds h k⟩
def G2.done{P fn b s t}{e:Ex}(a:e≠.nrm)(h:CSpec P (Zl fn b) s e t):G2 P fn b s e t:=⟨0,a,h⟩
def G2.ext{P fn b s t}(a:Rj b (Zk fn b)=U)(h:G2 P fn b s (.ext b) t):CSpec P (Zk fn b) s .nrm t:=let ⟨_,h⟩:=h;Z28 a h
def G2.ret{P fn b s t}(a:Rj b (Zk fn b)=U)(h:G2 P fn b s .ret t):CSpec P (Zk fn b) s .ret t:=let ⟨_,h⟩:=h;Z1D a h
def G2.endx{P fn}{b n:Nat}{s t}(h:CSpec P (Zl fn b) s (.ext n) t):G2 P fn b s (.ext n) t:=.done (λh=>nomatch h) h
def G2.endr{P fn b s t}(h:CSpec P (Zl fn b) s .ret t):G2 P fn b s .ret t:=.done (λh=>nomatch h) h
def ZE(l:List Int):AV:=.d (.sl 1 (l.map iD))
def bs:(∀a b:Bool,((a&&b)=U)=(a=U/\b=U))/\(∀a b:Bool,((a||b)=U)=(a=U\/b=U))/\(∀(p:Prop) [Decidable p],(decide p=U)=p)/\(∀(p:Prop) [Decidable p],(decide p=Y)=¬ p) /\ (∀a:Bool,((!a)=U)=(a=Y))/\(∀a:Bool,((!a)=Y)=(a=U))/\(∀a b:Bool,((a&&b)=Y)=(a=Y\/b=Y))/\(∀a b:Bool,((a||b)=Y)=(a=Y/\b=Y)) /\ (∀a b:Int,((a==b)=U)=(a=b))/\(∀a b:Int,((a==b)=Y)=¬ (a=b))/\(∀a b:Bool,((a==b)=U)=(a=U↔b=U))/\(∀p q:Prop,(¬ (p/\q))=(p->¬ q))/\(∀p q:Prop,(¬ (p\/q))=(¬ p/\¬ q))/\(∀p:Prop,(¬ ¬ p)=p)/\(∀a b:Int,((a != b)=U)=¬ (a=b))/\(∀a b:Int,((a != b)=Y)=(a=b))/\(∀a b:Bool,((a != b)=U)=¬ (a=U↔b=U))/\(∀a b:Bool,((a != b)=Y)=(a=U↔b=U))/\(∀a b:Bool,((a==b)=Y)=¬ (a=U↔b=U)):=by refine⟨by simp,by simp,by simp,by simp,by simp,by simp, ?_,by simp,by simp,by simp, ?_,by simp,by simp,by simp,by simp,by simp, ?_, ?_, ?_⟩<;>intro a b<;>cases a<;>cases b<;>simp
def CR{n:Int}(a:-9223372036854775808<=n)(b:n<=9223372036854775807):L.wrap n=n:=IntWalk.i64_in n ⟨a,b⟩
def TS{n:Int}(a:0<=n)(b:n<=18446744073709551615):Lb.wrap n=n:=IntWalk.u64_in n ⟨a,b⟩
def Zf{n m:Int}(e:n=m)(a:-9223372036854775808<=m)(b:m<=9223372036854775807):L.wrap n=m:=e▸CR (e▸a) (e▸b)
def Bs{n m:Int}(e:n=m)(a:0<=m)(b:m<=18446744073709551615):Lb.wrap n=m:=e▸TS (e▸a) (e▸b)
def wrap32(n:Int):Lc.wrap n=n%4294967296:=by rw[Lh]
def Z0p{n:Int}(h1:0<=n)(h2:n<=4294967295):Lc.wrap n=n:=by rw[wrap32];omega
def Hs{a b m:Int}(e:b=m)(h:0<=m):a.fdiv b=a/m:=by rw[e];exact Int.fdiv_eq_ediv_of_nonneg a h
def R0(k:Nat)(d:k<=63){x m:Int}(e:m=2^k-1)(b:0<=x)(h1:x<=18446744073709551615):bits .and .u64 x m=x%2^k:=by
 have hp:(2:Nat)^k<=2^63:=Ln dd d;have a:1<=(2:Nat)^k:=Lm;have h:=bits_and_u64_nat x.toNat (2^k-1) oq oq;rw[Lk,La b]at h;have c:(((2:Nat)^k-1:Nat):Int)=m:=by rw[e];push_cast [a];rfl
 rw[c]at h;rw[h,Lg,La b];simp
def bits_and_u32_nat(a b:Nat)(ha:a<4294967296)(hb:b<4294967296):bits .and .u32 (a:Int) (b:Int)=((a &&& b:Nat):Int):=by
 have hx:a &&& b<2^32:=Nat.and_lt_two_pow _ oq;have c:(O 32 (a:Int)).toNat=a:=by(rw[Le,Lf];exact Ll oq)
 have d:(O 32 (b:Int)).toNat=b:=by(rw[Le,Lf];exact Ll oq)
 show Lc.wrap ((O 32 (a:Int) &&& O 32 (b:Int)).toNat:Int)=_;rw[BitVec.toNat_and,c,d,Lh];omega
def ZgW(k:Nat)(d:k<=31){x m:Int}(e:m=2^k-1)(b:0<=x)(h1:x<=4294967295):bits .and .u32 x m=x%2^k:=by
 have hp:(2:Nat)^k<=2^31:=Ln dd d;have a:1<=(2:Nat)^k:=Lm;have h:=bits_and_u32_nat x.toNat (2^k-1) oq oq;rw[Lk,La b]at h;have c:(((2:Nat)^k-1:Nat):Int)=m:=by rw[e];push_cast [a];rfl
 rw[c]at h;rw[h,Lg,La b];simp
def H7(l:List Int):Cd (l.map wD):=by intro e b x a;obtain⟨y,_,rfl⟩:=Li.1 b;simp[wD]at a;exact⟨_,a⟩
def AN(l:List Int):Cd (l.map iD):=by intro e b x a;obtain⟨y,_,rfl⟩:=Li.1 b;simp[iD]at a;exact⟨_,a⟩
def ZR{α:Type}{f:α->List DV}{l:List α}{n:Nat}{d:α}(h:n<l.length):(l.map f)[n]?=N (f (l.getD n d)):=by simp[List.getD,h]
def Zm{α:Type}{f:α->List DV}{l:List α}{n:Int}{k:Nat}{d:α}(a:0<=n)(e:n.toNat=k)(h:k<l.length):0<=n/\(l.map f)[n.toNat]?=N (f (l.getD k d)):=by subst e;exact⟨a,ZR h⟩
def an{a b:Prop}(x:a)(y:b):a/\b:=⟨x,y⟩
def rf{α:Type}(a:α):a=a:=rfl
def tt:U=U:=rfl
def nl:([]:List (List DV))=[]:=rfl
abbrev bT(n:Nat):Nat×List Hint:=(n,[.br U])
abbrev bF(n:Nat):Nat×List Hint:=(n,[.br Y])
def bo(p:Prop)(h:p:=by(simp only[bs];first|(dsimp+zetaDelta only;omega)|omega|(simp only[List.length_cons,List.length_nil];omega))):p:=h
def om(p:Prop)(h:p:=by first|(dsimp+zetaDelta only;omega)|omega|(simp only[List.length_cons,List.length_nil];omega)):p:=h
def lm(p:Prop)(h:p:=by simp only[List.length_map]):p:=h
def wI(p:Prop)(h:p:=by exact Zf rfl oq oq):p:=h
def wU(p:Prop)(h:p:=by exact Bs rfl oq oq):p:=h
def eI(p:Prop)(h:p:=by exact Zm oq oq oq):p:=h
def Zlx{P fn n}{pre:Tg}{e}{post:Tg}(_:CSpec P (Zk fn n) pre.st e post.st):Nat×Tg×Ex×Tg:=(n,pre,e,post)
def gE{P:Program}{f:Nat}{fn args fr res news}(hints:List (Nat×List Hint)) a keep(d:P.funcs[f]?=N fn) fl{φ:Prop}(g:φ)(b:Rs fl (I7 P hints a keep fn args fr res news)=φ:=by kernel_rfl)(c:IF fl (I7 P hints a keep fn args fr res news)=IJ fl (I7 P hints a keep fn args fr res news):=by kernel_rfl)(e:keep.Nodup:=by decide):GSpec P f args fr res news:=
 Zb hints a keep e d fl g b c
def sE{P}(hints:List (Nat×List Hint)) a b fl{c s}{e:Ex}{t}{φ:Prop}(h:φ)(d:Rs fl (Eu P hints a b c s t)=φ:=by kernel_rfl)(f:IF fl (Eu P hints a b c s t)=IJ fl (Eu P hints a b c s t):=by kernel_rfl)(g:exO (Eu P hints a b c s t)=N e:=by kernel_rfl):CSpec P c s e t.st:=
 Zh hints a b fl h d f g
abbrev zW:List AV:=[nI 0, nI 0,.d (.sl 0 []),.d (.sl 0 []),nI 0,nI 0,.d (.sl 0 []),.d (.sl 0 []),.d (.sl 0 []),nI 0,nI 0,nI 0,nI 0,nI 0,nI 0,nI 0]
def bb:∀b:Bool,b=U\/b=Y:=Bool.eq_false_or_eq_true
structure Fq (hs:List (Nat×List Hint)) (cs:List (Nat×Tg×Ex×Tg)) (φ:Prop):Prop where p:φ
def Z0X:List Prop->Prop|[]=>True|p::l=>p/\Z0X l
def Z7O:∀{l:List Prop},Z0X l->B3 l|[],_=>trivial|_::_,h=>GW.2 ⟨h.1,Z7O h.2⟩
def Ma(fl:List Bool):Option ZI->Prop|some r=>Z0X (r.ph++My fl r.eq)|none=>False
def Ou{fl}:∀{r:Option ZI},Ma fl r->Rs fl r|some _,h=>Z7O h
section
variable{hs:List (Nat×List Hint)}{cs:List (Nat×Tg×Ex×Tg)}{φ:Prop}
theorem Fz:Fq [] [] True:=⟨trivial⟩
theorem Fa{a:Prop}(h:a)(r:Fq hs cs φ):Fq hs cs (a/\φ):=⟨h,r.p⟩
theorem Fh(n:Nat)(l:List Hint)(r:Fq hs cs φ):Fq ((n,l)::hs) cs φ:=⟨r.p⟩
theorem Fk(c:Nat×Tg×Ex×Tg)(r:Fq hs cs φ):Fq hs (c::cs) φ:=⟨r.p⟩
theorem Fc(n:Nat){P f args fr res news}(h:GSpec P f args fr res news)(r:Fq hs cs φ):Fq ((n,[.call fr res news])::hs) cs (GSpec P f args fr res news/\φ):=⟨h,r.p⟩
theorem Fu{P fn n}{pre:Tg}{e}{post:Tg}(h:CSpec P (Zk fn n) pre.st e post.st)(r:Fq hs cs φ):Fq hs ((n,pre,e,post)::cs) (CSpec P (Zk fn n) pre.st e post.st/\φ):=⟨h,r.p⟩
theorem Ftt(r:Fq hs cs φ):Fq hs cs (U=U/\φ):=⟨rfl,r.p⟩
theorem Fff(r:Fq hs cs φ):Fq hs cs (Y=Y/\φ):=⟨rfl,r.p⟩
theorem Fnl(r:Fq hs cs φ):Fq hs cs (([]:List (List DV))=[]/\φ):=⟨rfl,r.p⟩
theorem Fr{α:Type}(a:α)(r:Fq hs cs φ):Fq hs cs (a=a/\φ):=⟨rfl,r.p⟩
theorem Fo(p:Prop)(r:Fq hs cs φ)(h:p:=by first|(dsimp+zetaDelta only;omega)|omega|(simp only[List.length_cons,List.length_nil];omega)):Fq hs cs (p/\φ):=⟨h,r.p⟩
theorem Fb(p:Prop)(r:Fq hs cs φ)(h:p:=by(simp only[bs];first|(dsimp+zetaDelta only;omega)|omega|(simp only[List.length_cons,List.length_nil];omega))):Fq hs cs (p/\φ):=⟨h,r.p⟩
theorem Ft(n:Nat){b:Bool}(h:b=U)(r:Fq hs cs φ):Fq ((n,[.br U])::hs) cs (b=U/\U=U/\φ):=⟨h,rfl,r.p⟩
theorem Ff(n:Nat){b:Bool}(h:b=Y)(r:Fq hs cs φ):Fq ((n,[.br Y])::hs) cs (b=Y/\Y=Y/\φ):=⟨h,rfl,r.p⟩
theorem Ftb(n:Nat)(b:Bool)(r:Fq hs cs φ)(h:b=U:=by(simp only[bs];first|(dsimp+zetaDelta only;omega)|omega|(simp only[List.length_cons,List.length_nil];omega))):Fq ((n,[.br U])::hs) cs (b=U/\U=U/\φ):=⟨h,rfl,r.p⟩
theorem Ffb(n:Nat)(b:Bool)(r:Fq hs cs φ)(h:b=Y:=by(simp only[bs];first|(dsimp+zetaDelta only;omega)|omega|(simp only[List.length_cons,List.length_nil];omega))):Fq ((n,[.br Y])::hs) cs (b=Y/\Y=Y/\φ):=⟨h,rfl,r.p⟩
theorem Fg(n:Nat){a b:Int}(h:a=b)(r:Fq hs cs φ):Fq ((n,[.int b])::hs) cs (a=b/\φ):=⟨h,r.p⟩
theorem Fgo(n:Nat)(a b:Int)(r:Fq hs cs φ)(h:a=b:=by first|(dsimp+zetaDelta only;omega)|omega|(simp only[List.length_cons,List.length_nil];omega)):Fq ((n,[.int b])::hs) cs (a=b/\φ):=⟨h,r.p⟩
theorem Fi(n:Nat)(x:Int)(r:Fq hs cs φ)(a:-9223372036854775808<=x:=by first|(dsimp+zetaDelta only;omega)|omega|(simp only[List.length_cons,List.length_nil];omega))(b:x<=9223372036854775807:=by first|(dsimp+zetaDelta only;omega)|omega|(simp only[List.length_cons,List.length_nil];omega)):Fq ((n,[.int x])::hs) cs (L.wrap x=x/\φ):=⟨CR a b,r.p⟩
theorem Fv(n:Nat)(x:Int)(r:Fq hs cs φ)(a:0<=x:=by first|(dsimp+zetaDelta only;omega)|omega|(simp only[List.length_cons,List.length_nil];omega))(b:x<=18446744073709551615:=by first|(dsimp+zetaDelta only;omega)|omega|(simp only[List.length_cons,List.length_nil];omega)):Fq ((n,[.int x])::hs) cs (Lb.wrap x=x/\φ):=⟨TS a b,r.p⟩
theorem Fl(n:Nat){α:Type}(f:α->List DV)(l:List α)(r:Fq hs cs φ):Fq ((n,[.int (l.length:Int)])::hs) cs (((l.map f).length:Int)=(l.length:Int)/\φ):=⟨by simp only[M],r.p⟩
theorem Fek(n:Nat){α:Type}[Inhabited α](f:α->List DV)(l:List α)(i:Int)(k:Nat)(r:Fq hs cs φ)(a:0<=i:=by first|(dsimp+zetaDelta only;omega)|omega|(simp only[List.length_cons,List.length_nil];omega))(e:i.toNat=k:=by first|(dsimp+zetaDelta only;omega)|omega|(simp only[List.length_cons,List.length_nil];omega))(h:k<l.length:=by first|(dsimp+zetaDelta only;omega)|omega|(simp only[List.length_cons,List.length_nil];omega)):Fq ((n,[.el (f (l.getD k Z))])::hs) cs ((0<=i/\(l.map f)[i.toNat]?=N (f (l.getD k Z)))/\φ):=⟨Zm a e h,r.p⟩
theorem Fe(n:Nat){α:Type}[Inhabited α](f:α->List DV)(l:List α)(i:Int)(r:Fq hs cs φ)(a:0<=i:=by first|(dsimp+zetaDelta only;omega)|omega|(simp only[List.length_cons,List.length_nil];omega))(h:i.toNat<l.length:=by first|(dsimp+zetaDelta only;omega)|omega|(simp only[List.length_cons,List.length_nil];omega)):Fq ((n,[.el (f (l.getD i.toNat Z))])::hs) cs ((0<=i/\(l.map f)[i.toNat]?=N (f (l.getD i.toNat Z)))/\φ):=⟨Zm a rfl h,r.p⟩
theorem Fs(n:Nat)(a:List (List DV))(r:Fq hs cs φ):Fq ((n,[.els a])::hs) cs (a=a/\φ):=⟨rfl,r.p⟩
theorem Fx(n:Nat)(i:Nat)(r:Fq hs cs φ)(h:(i:Int)+1<=9223372036854775807:=by first|(dsimp+zetaDelta only;omega)|omega|(simp only[List.length_cons,List.length_nil];omega)):Fq ((n,[.int ((i+1:Nat):Int)])::hs) cs (L.wrap ((i:Int)+1)=((i+1:Nat):Int)/\φ):=⟨Zf rfl oq oq,r.p⟩
theorem Fw(n:Nat)(a b:Int)(r:Fq hs cs φ)(h:a=b:=by first|(dsimp+zetaDelta only;omega)|omega|(simp only[List.length_cons,List.length_nil];omega))(c:-9223372036854775808<=b:=by first|(dsimp+zetaDelta only;omega)|omega|(simp only[List.length_cons,List.length_nil];omega))(d:b<=9223372036854775807:=by first|(dsimp+zetaDelta only;omega)|omega|(simp only[List.length_cons,List.length_nil];omega)):Fq ((n,[.int b])::hs) cs (L.wrap a=b/\φ):=⟨by rw[h];exact CR c d,r.p⟩
theorem FiG(n:Nat)(c:Bool)(x:Int)(r:Fq hs cs φ)(h:c=U->-9223372036854775808<=x/\x<=9223372036854775807:=by intro a;(try simp only[bs]at a);first|(dsimp+zetaDelta only at a⊢;omega)|omega):Fq ((n,[.int x])::hs) cs ((c=U->L.wrap x=x)/\φ):=⟨λq=>CR (h q).1 (h q).2,r.p⟩
theorem FvG(n:Nat)(c:Bool)(x:Int)(r:Fq hs cs φ)(h:c=U->0<=x/\x<=18446744073709551615:=by intro a;(try simp only[bs]at a);first|(dsimp+zetaDelta only at a⊢;omega)|omega):Fq ((n,[.int x])::hs) cs ((c=U->Lb.wrap x=x)/\φ):=⟨λq=>TS (h q).1 (h q).2,r.p⟩
theorem FlG(n:Nat)(c:Bool){α:Type}(f:α->List DV)(l:List α)(r:Fq hs cs φ):Fq ((n,[.int (l.length:Int)])::hs) cs ((c=U->((l.map f).length:Int)=(l.length:Int))/\φ):=⟨λ_=>by simp only[M],r.p⟩
theorem FeG(n:Nat)(c:Bool){α:Type}[Inhabited α](f:α->List DV)(l:List α)(i:Int)(k:Nat)(r:Fq hs cs φ)(h:c=U->0<=i/\i.toNat=k/\k<l.length:=by intro a;(try simp only[bs]at a);first|(dsimp+zetaDelta only at a⊢;omega)|omega):Fq ((n,[.el (f (l.getD k Z))])::hs) cs ((c=U->0<=i/\(l.map f)[i.toNat]?=N (f (l.getD k Z)))/\φ):=⟨λq=>Zm (h q).1 (h q).2.1 (h q).2.2,r.p⟩
theorem el2{α}[Inhabited α](f:α->List DV){l:List α}{i:Int}{k:Nat}(h:i.toNat=k/\k<l.length):(l.map f)[i.toNat]?=N (f (l.getD k Z)):=by rw[h.1,List.getElem?_map,List.getD_eq_getElem?_getD,List.getElem?_eq_getElem h.2];rfl
theorem Fm0{α}[Inhabited α](f:α->List DV)(l:List α)(i:Int)(k:Nat)(r:Fq hs cs φ)(h:0<=i/\i.toNat=k/\k<l.length:=by first|(dsimp+zetaDelta only;omega)|omega|(simp only[List.length_cons,List.length_nil];omega)):Fq hs cs ((0<=i/\i.toNat<(l.map f).length)/\(l.map f)[i.toNat]?=N (f (l.getD k Z))/\φ):=⟨⟨h.1,by rw[M];omega⟩,el2 f h.2,r.p⟩
theorem Fm(n:Nat){α}[Inhabited α](f:α->List DV)(l:List α)(i:Int)(k:Nat)(r:Fq hs cs φ)(h:0<=i/\i.toNat=k/\k<l.length:=by first|(dsimp+zetaDelta only;omega)|omega|(simp only[List.length_cons,List.length_nil];omega)):Fq ((n,[.el (f (l.getD k Z))])::hs) cs ((0<=i/\i.toNat<(l.map f).length)/\(l.map f)[i.toNat]?=N (f (l.getD k Z))/\φ):=⟨⟨h.1,by rw[M];omega⟩,el2 f h.2,r.p⟩
theorem FmG(n:Nat)(c:Bool){α}[Inhabited α](f:α->List DV)(l:List α)(i:Int)(k:Nat)(r:Fq hs cs φ)(h:c=U->0<=i/\i.toNat=k/\k<l.length:=by intro a;(try simp only[bs]at a);first|(dsimp+zetaDelta only at a⊢;omega)|omega):Fq ((n,[.el (f (l.getD k Z))])::hs) cs ((c=U->0<=i/\i.toNat<(l.map f).length)/\(c=U->(l.map f)[i.toNat]?=N (f (l.getD k Z)))/\φ):=⟨λq=>⟨(h q).1,by rw[M];have:=h q;omega⟩,λq=>el2 f (h q).2,r.p⟩
theorem FS(n:Nat){α:Type}(f:α->List DV)(l:List α)(i:Nat)(p:α)(e:List DV)(r:Fq hs cs φ):Fq ((n,[.el e,.els ((l.set i p).map f)])::hs) cs ((l.map f).set i (f p)=(l.set i p).map f/\φ):=⟨by rw[List.map_set],r.p⟩
theorem FcG(n:Nat)(c:Bool){P f args fr res news}(h:c=U->GSpec P f args fr res news)(r:Fq hs cs φ):Fq ((n,[.call fr res news])::hs) cs ((c=U->GSpec P f args fr res news)/\φ):=⟨h,r.p⟩
theorem gF{P:Program}{f:Nat}{fn args fr res news} keep(c:P.funcs[f]?=N fn) fl(h:Fq hs cs φ)(a:Ma fl (I7 P hs cs keep fn args fr res news)=φ:=by kernel_rfl)(b:IF fl (I7 P hs cs keep fn args fr res news)=IJ fl (I7 P hs cs keep fn args fr res news):=by kernel_rfl)(d:keep.Nodup:=by decide):GSpec P f args fr res news:=
 Zb hs cs keep d c fl (Ou (Eq.mpr a h.p)) rfl b
theorem sF{P} a fl{c s}{e:Ex}{t}(h:Fq hs cs φ)(b:Ma fl (Eu P hs cs a c s t)=φ:=by kernel_rfl)(d:IF fl (Eu P hs cs a c s t)=IJ fl (Eu P hs cs a c s t):=by kernel_rfl)(f:exO (Eu P hs cs a c s t)=N e:=by kernel_rfl):CSpec P c s e t.st:=
 Zh hs cs a fl (Ou (Eq.mpr b h.p)) rfl d f
end
abbrev fO(n:Nat):List Bool:=Lj n Y++[U]
abbrev fP(n:Nat):List Bool:=Lj n Y++[U,U]
section
variable{hs:List (Nat×List Hint)}{cs:List (Nat×Tg×Ex×Tg)}{φ:Prop}
theorem Fts(n:Nat)(b:Bool)(r:Fq hs cs φ)(h:b=U:=by simp only[bs, *,true_or,or_true,true_and,and_true,not_true_eq_false,not_false_eq_true,Bool.true_eq_false,Bool.false_eq_true]):Fq ((n,[.br U])::hs) cs (b=U/\U=U/\φ):=⟨h,rfl,r.p⟩
theorem Ffs(n:Nat)(b:Bool)(r:Fq hs cs φ)(h:b=Y:=by simp only[bs, *,true_or,or_true,true_and,and_true,not_true_eq_false,not_false_eq_true,Bool.true_eq_false,Bool.false_eq_true]):Fq ((n,[.br Y])::hs) cs (b=Y/\Y=Y/\φ):=⟨h,rfl,r.p⟩
theorem Fbs(p:Prop)(r:Fq hs cs φ)(h:p:=by simp only[bs, *,true_or,or_true,true_and,and_true,not_true_eq_false,not_false_eq_true,Bool.true_eq_false,Bool.false_eq_true]):Fq hs cs (p/\φ):=⟨h,r.p⟩
theorem FAx(n m:Nat){α:Type}(f:α->List DV)(l:List α)(h:(X f []).length+(X f l).length<=2^30)(r:Fq hs cs φ):Fq ((n,[.els (X f [])])::(m,[.els (X f l)])::hs) cs (X f []=X f []/\((X f []).length+(X f l).length<=2^30)/\X f l=X f l/\φ):=⟨rfl,h,rfl,r.p⟩
theorem FA(n m:Nat){α:Type}(f:α->List DV)(l:List α)(r:Fq hs cs φ)(h:l.length<=1073741824:=by first|omega|(simp[*];omega)):Fq ((n,[.els (X f [])])::(m,[.els (X f l)])::hs) cs (X f []=X f []/\((X f []).length+(X f l).length<=2^30)/\X f l=X f l/\φ):=
 FAx n m f l (by rw[M,M];simpa using h) r
theorem FBx(m k:Nat){α:Type}(f:α->List DV)(l:List α)(x:α)(h:(X f l).length+(X f [x]).length<=2^30)(r:Fq hs cs φ):Fq ((m,[.els (X f [x])])::(k,[.els (X f (l++[x]))])::hs) cs (X f [x]=X f [x]/\((X f l).length+(X f [x]).length<=2^30)/\X f l++X f [x]=X f (l++[x])/\φ):=⟨rfl,h,List.map_append.symm,r.p⟩
theorem FB(m k:Nat){α:Type}(f:α->List DV)(l:List α)(x:α)(r:Fq hs cs φ)(h:l.length<1073741824:=by first|omega|(simp[*];omega)):Fq ((m,[.els (X f [x])])::(k,[.els (X f (l++[x]))])::hs) cs (X f [x]=X f [x]/\((X f l).length+(X f [x]).length<=2^30)/\X f l++X f [x]=X f (l++[x])/\φ):=
 FBx m k f l x (by rw[M,M];simp only[List.length_cons,List.length_nil];omega) r
theorem FM(a b:Nat){α:Type}(f:α->List DV)(l:List α)(i:Nat)(r:Fq hs cs φ)(h:i<l.length:=by first|(dsimp+zetaDelta only;omega)|omega|(simp only[List.length_cons,List.length_nil];omega)):Fq ((a,[.int (l.length:Int)])::(b,[.br U])::hs) cs (((l.map f).length:Int)=(l.length:Int)/\decide ((i:Int)<(l.length:Int))=U/\U=U/\φ):=⟨by rw[M],decide_eq_true oq,rfl,r.p⟩
theorem FN(a b c:Nat){α:Type}[Inhabited α](f:α->List DV)(l:List α)(i:Nat)(r:Fq hs cs φ)(h:i<l.length:=by first|(dsimp+zetaDelta only;omega)|omega|(simp only[List.length_cons,List.length_nil];omega)):Fq ((a,[.int (l.length:Int)])::(b,[.br U])::(c,[.el (f (l.getD i Z))])::hs) cs (((l.map f).length:Int)=(l.length:Int)/\decide ((i:Int)<(l.length:Int))=U/\U=U/\(0<=(i:Int)/\(l.map f)[(i:Int).toNat]?=N (f (l.getD i Z)))/\φ):=⟨by rw[M],decide_eq_true oq,rfl,Zm oq oq h,r.p⟩
theorem FO(a b:Nat){α:Type}(f:α->List DV)(l:List α)(r:Fq hs cs φ):Fq ((a,[.int (l.length:Int)])::(b,[.br Y])::hs) cs (((l.map f).length:Int)=(l.length:Int)/\decide ((l.length:Int)<(l.length:Int))=Y/\Y=Y/\φ):=⟨by rw[M],decide_eq_false oq,rfl,r.p⟩
theorem Fm0q{α}[Inhabited α](f:α->List DV)(l:List α)(i:Int)(r:Fq hs cs φ)(h:0<=i/\i.toNat<l.length:=by first|(dsimp+zetaDelta only;omega)|omega|(simp only[List.length_cons,List.length_nil];omega)):Fq hs cs ((0<=i/\i.toNat<(l.map f).length)/\(l.map f)[i.toNat]?=N (f (l.getD i.toNat Z))/\φ):=Fm0 f l i i.toNat r ⟨h.1,rfl,h.2⟩
theorem Fmq(n:Nat){α}[Inhabited α](f:α->List DV)(l:List α)(i:Int)(r:Fq hs cs φ)(h:0<=i/\i.toNat<l.length:=by first|(dsimp+zetaDelta only;omega)|omega|(simp only[List.length_cons,List.length_nil];omega)):Fq ((n,[.el (f (l.getD i.toNat Z))])::hs) cs ((0<=i/\i.toNat<(l.map f).length)/\(l.map f)[i.toNat]?=N (f (l.getD i.toNat Z))/\φ):=Fm n f l i i.toNat r ⟨h.1,rfl,h.2⟩
theorem FmGq(n:Nat)(c:Bool){α}[Inhabited α](f:α->List DV)(l:List α)(i:Int)(r:Fq hs cs φ)(h:c=U->0<=i/\i.toNat<l.length:=by intro a;(try simp only[bs]at a);first|(dsimp+zetaDelta only at a⊢;omega)|omega):Fq ((n,[.el (f (l.getD i.toNat Z))])::hs) cs ((c=U->0<=i/\i.toNat<(l.map f).length)/\(c=U->(l.map f)[i.toNat]?=N (f (l.getD i.toNat Z)))/\φ):=FmG n c f l i i.toNat r (λq=>⟨(h q).1,rfl,(h q).2⟩)
theorem FeGq(n:Nat)(c:Bool){α:Type}[Inhabited α](f:α->List DV)(l:List α)(i:Int)(r:Fq hs cs φ)(h:c=U->0<=i/\i.toNat<l.length:=by intro a;(try simp only[bs]at a);first|(dsimp+zetaDelta only at a⊢;omega)|omega):Fq ((n,[.el (f (l.getD i.toNat Z))])::hs) cs ((c=U->0<=i/\(l.map f)[i.toNat]?=N (f (l.getD i.toNat Z)))/\φ):=FeG n c f l i i.toNat r (λq=>⟨(h q).1,rfl,(h q).2⟩)
theorem Fe2(c:Bool){α:Type}[Inhabited α](f:α->List DV)(l:List α)(i:Int)(k:Nat)(r:Fq hs cs φ)(h:c=U->0<=i/\i.toNat=k/\k<l.length:=by intro a;(try simp only[bs]at a);first|(dsimp+zetaDelta only at a⊢;omega)|omega):Fq hs cs ((c=U->0<=i/\(l.map f)[i.toNat]?=N (f (l.getD k Z)))/\φ):=⟨(FeG 0 c f l i k r h).p.1,r.p⟩
theorem Fe2q(c:Bool){α:Type}[Inhabited α](f:α->List DV)(l:List α)(i:Int)(r:Fq hs cs φ)(h:c=U->0<=i/\i.toNat<l.length:=by intro a;(try simp only[bs]at a);first|(dsimp+zetaDelta only at a⊢;omega)|omega):Fq hs cs ((c=U->0<=i/\(l.map f)[i.toNat]?=N (f (l.getD i.toNat Z)))/\φ):=⟨(FeGq 0 c f l i r h).p.1,r.p⟩
theorem Fm2(c:Bool){α}[Inhabited α](f:α->List DV)(l:List α)(i:Int)(k:Nat)(r:Fq hs cs φ)(h:c=U->0<=i/\i.toNat=k/\k<l.length:=by intro a;(try simp only[bs]at a);first|(dsimp+zetaDelta only at a⊢;omega)|omega):Fq hs cs ((c=U->0<=i/\i.toNat<(l.map f).length)/\(c=U->(l.map f)[i.toNat]?=N (f (l.getD k Z)))/\φ):=(⟨(FmG 0 c f l i k r h).p⟩:Fq hs cs _)
theorem Fm2q(c:Bool){α}[Inhabited α](f:α->List DV)(l:List α)(i:Int)(r:Fq hs cs φ)(h:c=U->0<=i/\i.toNat<l.length:=by intro a;(try simp only[bs]at a);first|(dsimp+zetaDelta only at a⊢;omega)|omega):Fq hs cs ((c=U->0<=i/\i.toNat<(l.map f).length)/\(c=U->(l.map f)[i.toNat]?=N (f (l.getD i.toNat Z)))/\φ):=(⟨(FmGq 0 c f l i r h).p⟩:Fq hs cs _)
end
section
variable{hs:List (Nat×List Hint)}{cs:List (Nat×Tg×Ex×Tg)}{φ0:Prop}
theorem Fbr(n:Nat)(ls:List Nat){P f args pre res post}(h:BorSpec P f args pre res post)(r:Fq hs cs φ0):Fq ((n,[.bor ls res post])::hs) cs (BorSpec P f args pre res post/\φ0):=⟨h,r.p⟩
theorem Fbq(n:Nat)(ls:List Nat){P f args pre res post}(h:BorSpec P f args pre res post)(r:Fq hs cs φ0):Fq ((n,[.bor ls res []])::hs) cs (BorSpec P f args pre res post/\φ0):=⟨h,r.p⟩
theorem Fp(n:Nat){P f args pre res post}(h:BorSpec P f args pre res post)(r:Fq hs cs φ0):Fq ((n,[.bor [0] res post])::hs) cs (BorSpec P f args pre res post/\φ0):=⟨h,r.p⟩
end
def sj{p:Prop}(h:p:=by((repeat' split)<;>first|rfl|omega|(exfalso;omega)|simp_all)):p:=h
def ms{p:Prop}(h:p:=by simp[List.map_take,List.map_drop,List.map_set,List.map_append,wD,iD]):p:=h
end Go.Sx
