/-
 The statement BoundRequests: part 5.
 Conditions: none.
-/
import Derived.Laws.Bits64b
import Derived.Test.YtkmnngahjnkdmaaGreatE4
set_option maxRecDepth 100000
set_option maxHeartbeats 2000000
set_option linter.all false
open Bool renaming true->U,false->Y
open List renaming map->X,length_map->M,map_cons->Ld,mem_map->Li,replicate->Lj
open Inhabited renaming default->Z
open Option renaming some->N
open Go.IntKind renaming i64->L,u64->Lb,u32->Lc,wrap_u32->Lh
open BitVec renaming ofInt->O,ofInt_natCast->Le,toNat_ofNat->Lf
open Int renaming toNat_of_nonneg->La,natCast_emod->Lg
open Nat renaming and_two_pow_sub_one_eq_mod->Lk,mod_eq_of_lt->Ll,one_le_two_pow->Lm,pow_le_pow_right->Ln
namespace Go.Sx
def Z3b:DV->DV->List Prop|.sc (.int k a),.sc (.int k' b)=>if Tb k k' then [a=b]else [DV.sc (.int k a)=.sc (.int k' b)]|.sc (.bool a),.sc (.bool b)=>[a=b]|.sl s a,.sl s' b=>if s=s' then [a=b]else [DV.sl s a=.sl s' b]|x,y=>[x=y]
def MF:AV->AV->List Prop|.d x,.d y=>Z3b x y|x,y=>[x=y]
def eqL(f:AV->AV->List Prop):List AV->List AV->List Prop|a::l,b::m=>f a b++eqL f l m|[],[]=>[]|l,m=>[l=m]
def eqA:AV->AV->List Prop|.ag l,.ag m=>eqL MF l m|.tu l,.tu m=>eqL MF l m|x,y=>MF x y
def eqT:AV->AV->List Prop|.tu l,.tu m=>eqL eqA l m|x,y=>eqA x y
def ZdV{x y}(h:B9 (Z3b x y)):x=y:=by unfold Z3b at h;split at h;split at h;rename_i a;have:=Z28 a;simp only[B9]at h;rw[this,h];exact h;simp only[B9]at h;rw[h];split at h;rename_i a;simp only[B9]at h;rw[a,h];exact h;exact h
def Z3I{x y}(h:B9 (MF x y)):x=y:=by unfold MF at h;split at h;rw[ZdV h];exact h
def Z0l{f:AV->AV->List Prop}(c:∀x y,B9 (f x y)->x=y):∀{l m:List AV},B9 (eqL f l m)->l=m
 |[],[],_=>rfl
 |a::l,b::m,h=>by
  obtain⟨d,e⟩:=Hk.1 h;rw[c a b d,Z0l c e]
 |[],b::m,h=>h
 |a::l,[],h=>h
def Z8x{x y}(h:B9 (eqA x y)):x=y:=by unfold eqA at h;split at h;rw[Z0l (λ_ _=>Z3I) h];rw[Z0l (λ_ _=>Z3I) h];exact Z3I h
def Zd2{x y}(h:B9 (eqT x y)):x=y:=by unfold eqT at h;split at h;rw[Z0l (λ_ _=>Z8x) h];exact Z8x h
def Tm:List Bool->List (AV×AV)->List Prop|true::fl,p::l=>eqT p.1 p.2++Tm fl l|false::fl,_::l=>Tm fl l|_,_=>[]
def Am:List Bool->List (AV×AV)->List (AV×AV)|true::fl,_::l=>Am fl l|false::fl,p::l=>p::Am fl l|_,l=>l
def Z2V:∀{fl:List Bool} {l:List (AV×AV)},B9 (Tm fl l)->(Am fl l).map (·.1)=(Am fl l).map (·.2)->l.map (·.1)=l.map (·.2)
 |[],l,_,h=>by cases l<;>exact h
 |true::fl,[],_,_=>rfl
 |false::fl,[],_,_=>rfl
 |true::fl,p::l,h,k=>by
  obtain⟨a,b⟩:=Hk.1 h;simp only[Ld,Zd2 a,Z2V b k]
 |false::fl,p::l,h,k=>by
  simp only[Am,Ld,List.cons.injEq]at k;simp only[Ld,k.1,Z2V (fl:=fl) h k.2]
def Rp(fl:List Bool):Option ZL->Prop|some r=>B9 (r.ph++Tm fl r.eq)|none=>False
def N1(fl:List Bool):Option ZL->List AV|some r=>(Am fl r.eq).map (·.1)|none=>[]
def Nb(fl:List Bool):Option ZL->List AV|some r=>(Am fl r.eq).map (·.2)|none=>[]
def TK{fl r}(h:Rp fl r)(k:N1 fl r=Nb fl r):PM r/\Z0q r=Z08 r:=by
 cases r with|none=>exact h.elim|some r =>obtain⟨a,b⟩:=Hk.1 h;exact⟨a,Z2V b k⟩
def Zb{P:Program}{f:Nat}{fn args fr res news}(hints:List (Nat×List Hint)) a(keep:List Nat)(b:keep.Nodup)(g:P.funcs[f]?=N fn) fl{φ:Prop}(c:φ)(d:Rp fl (Iv P hints a keep fn args fr res news)=φ)(e:N1 fl (Iv P hints a keep fn args fr res news)=Nb fl (Iv P hints a keep fn args fr res news)):GSpec P f args fr res news:=by rw[<-d]at c;obtain⟨k1,h⟩:=TK c e;exact Zbx hints a keep b g k1 rfl h
def Zi{P}(hints:List (Nat×List Hint)) a b fl{c s e t}{φ:Prop}(d:φ)(f:Rp fl (EE P hints a b c s t)=φ)(g:N1 fl (EE P hints a b c s t)=Nb fl (EE P hints a b c s t))(h:exO (EE P hints a b c s t)=N e):CSpec P c s e t.st:=by rw[<-f]at d;obtain⟨k1,i⟩:=TK d g;exact ZjK hints a b k1 rfl i h
def Gh(P:Program)(fn:Func)(b:Nat)(s:St)(e:Ex)(t:St):Prop:=∃k,IY P (Zn fn b) k s e t
def Gh.next{P fn b s a t e}(h:CSpec P (Zn fn b) s .nrm a)(k:Gh P fn b a e t):Gh P fn b s e t:=let ⟨n,k⟩:=k;⟨n+1,rounds h k⟩
def Gh.done{P fn b s t}{e:Ex}(a:e≠.nrm)(h:CSpec P (Zn fn b) s e t):Gh P fn b s e t:=⟨0,a,h⟩
def Gh.ext{P fn b s t}(a:RZ b (Zl fn b)=U)(h:Gh P fn b s (.ext b) t):CSpec P (Zl fn b) s .nrm t:=let ⟨_,h⟩:=h;Z1p a h
def Gh.ret{P fn b s t}(a:RZ b (Zl fn b)=U)(h:Gh P fn b s .ret t):CSpec P (Zl fn b) s .ret t:=let ⟨_,h⟩:=h;Z1D a h
def Gh.endx{P fn}{b n:Nat}{s t}(h:CSpec P (Zn fn b) s (.ext n) t):Gh P fn b s (.ext n) t:=.done (λh=>nomatch h) h
def Gh.endr{P fn b s t}(h:CSpec P (Zn fn b) s .ret t):Gh P fn b s .ret t:=.done (λh=>nomatch h) h
def ZG(l:List Int):AV:=.d (.sl 1 (l.map iD))
def bs:(∀a b:Bool,((a&&b)=U)=(a=U/\b=U))/\(∀a b:Bool,((a||b)=U)=(a=U\/b=U))/\(∀(p:Prop) [Decidable p],(decide p=U)=p)/\(∀(p:Prop) [Decidable p],(decide p=Y)=¬ p) /\ (∀a:Bool,((!a)=U)=(a=Y))/\(∀a:Bool,((!a)=Y)=(a=U))/\(∀a b:Bool,((a&&b)=Y)=(a=Y\/b=Y))/\(∀a b:Bool,((a||b)=Y)=(a=Y/\b=Y)) /\ (∀a b:Int,((a==b)=U)=(a=b))/\(∀a b:Int,((a==b)=Y)=¬ (a=b))/\(∀a b:Bool,((a==b)=U)=(a=U↔b=U))/\(∀p q:Prop,(¬ (p/\q))=(p->¬ q))/\(∀p q:Prop,(¬ (p\/q))=(¬ p/\¬ q))/\(∀p:Prop,(¬ ¬ p)=p)/\(∀a b:Int,((a != b)=U)=¬ (a=b))/\(∀a b:Int,((a != b)=Y)=(a=b))/\(∀a b:Bool,((a != b)=U)=¬ (a=U↔b=U))/\(∀a b:Bool,((a != b)=Y)=(a=U↔b=U))/\(∀a b:Bool,((a==b)=Y)=¬ (a=U↔b=U)):=by refine⟨by simp,by simp,by simp,by simp,by simp,by simp, ?_,by simp,by simp,by simp, ?_,by simp,by simp,by simp,by simp,by simp, ?_, ?_, ?_⟩<;>intro a b<;>cases a<;>cases b<;>simp
theorem E6{n:Int}(a:-9223372036854775808<=n)(b:n<=9223372036854775807):L.wrap n=n:=IntWalk.i64_in n ⟨a,b⟩
def Ms{n:Int}(a:0<=n)(b:n<=18446744073709551615):Lb.wrap n=n:=IntWalk.u64_in n ⟨a,b⟩
def Zf{n m:Int}(e:n=m)(a:-9223372036854775808<=m)(b:m<=9223372036854775807):L.wrap n=m:=e▸E6 (e▸a) (e▸b)
def BE{n m:Int}(e:n=m)(a:0<=m)(b:m<=18446744073709551615):Lb.wrap n=m:=e▸Ms (e▸a) (e▸b)
def wrap32(n:Int):Lc.wrap n=n%4294967296:=by rw[Lh]
def PL{n:Int}(h1:0<=n)(h2:n<=4294967295):Lc.wrap n=n:=by rw[wrap32];omega
def HE{a b m:Int}(e:b=m)(h:0<=m):a.fdiv b=a/m:=by rw[e];exact Int.fdiv_eq_ediv_of_nonneg a h
def NR(k:Nat)(d:k<=63){x m:Int}(e:m=2^k-1)(b:0<=x)(h1:x<=18446744073709551615):bits .and .u64 x m=x%2^k:=by
 have hp:(2:Nat)^k<=2^63:=Ln dd d;have a:1<=(2:Nat)^k:=Lm;have h:=bits_and_u64_nat x.toNat (2^k-1) oq oq;rw[Lk,La b]at h;have c:(((2:Nat)^k-1:Nat):Int)=m:=by rw[e];push_cast [a];rfl
 rw[c]at h;rw[h,Lg,La b];simp
def bits_and_u32_nat(a b:Nat)(ha:a<4294967296)(hb:b<4294967296):bits .and .u32 (a:Int) (b:Int)=((a &&& b:Nat):Int):=by
 have hx:a &&& b<2^32:=Nat.and_lt_two_pow _ oq;have c:(O 32 (a:Int)).toNat=a:=by(rw[Le,Lf];exact Ll oq)
 have d:(O 32 (b:Int)).toNat=b:=by(rw[Le,Lf];exact Ll oq)
 show Lc.wrap ((O 32 (a:Int) &&& O 32 (b:Int)).toNat:Int)=_;rw[BitVec.toNat_and,c,d,Lh];omega
def ZbE(k:Nat)(d:k<=31){x m:Int}(e:m=2^k-1)(b:0<=x)(h1:x<=4294967295):bits .and .u32 x m=x%2^k:=by
 have hp:(2:Nat)^k<=2^31:=Ln dd d;have a:1<=(2:Nat)^k:=Lm;have h:=bits_and_u32_nat x.toNat (2^k-1) oq oq;rw[Lk,La b]at h;have c:(((2:Nat)^k-1:Nat):Int)=m:=by rw[e];push_cast [a];rfl
 rw[c]at h;rw[h,Lg,La b];simp
def H6(l:List Int):Ca (l.map wD):=by intro e b x a;obtain⟨y,_,rfl⟩:=Li.1 b;simp[wD]at a;exact⟨_,a⟩
def Ma(l:List Int):Ca (l.map iD):=by intro e b x a;obtain⟨y,_,rfl⟩:=Li.1 b;simp[iD]at a;exact⟨_,a⟩
def ZT{α:Type}{f:α->List DV}{l:List α}{n:Nat}{d:α}(h:n<l.length):(l.map f)[n]?=N (f (l.getD n d)):=by simp[List.getD,h]
def Zp{α:Type}{f:α->List DV}{l:List α}{n:Int}{k:Nat}{d:α}(a:0<=n)(e:n.toNat=k)(h:k<l.length):0<=n/\(l.map f)[n.toNat]?=N (f (l.getD k d)):=by subst e;exact⟨a,ZT h⟩
def an{a b:Prop}(x:a)(y:b):a/\b:=⟨x,y⟩
def rf{α:Type}(a:α):a=a:=rfl
def tt:U=U:=rfl
def nl:([]:List (List DV))=[]:=rfl
abbrev bT(n:Nat):Nat×List Hint:=(n,[.br U])
abbrev bF(n:Nat):Nat×List Hint:=(n,[.br Y])
def bo(p:Prop)(h:p:=by(simp only[bs];first|(dsimp+zetaDelta only;omega)|omega|(simp only[List.length_cons,List.length_nil];omega))):p:=h
def om(p:Prop)(h:p:=by first|(dsimp+zetaDelta only;omega)|omega|(simp only[List.length_cons,List.length_nil];omega)):p:=h
def lm(p:Prop)(h:p:=by simp only[List.length_map]):p:=h
def wI(p:Prop)(h:p:=by exact Zf rfl oq oq):p:=h
def wU(p:Prop)(h:p:=by exact BE rfl oq oq):p:=h
def eI(p:Prop)(h:p:=by exact Zp oq oq oq):p:=h
def Zm4{P fn n}{pre:Tg}{e}{post:Tg}(_:CSpec P (Zl fn n) pre.st e post.st):Nat×Tg×Ex×Tg:=(n,pre,e,post)
def gE{P:Program}{f:Nat}{fn args fr res news}(hints:List (Nat×List Hint)) a keep(d:P.funcs[f]?=N fn) fl{φ:Prop}(g:φ)(b:Rp fl (Iv P hints a keep fn args fr res news)=φ:=by kernel_rfl)(c:N1 fl (Iv P hints a keep fn args fr res news)=Nb fl (Iv P hints a keep fn args fr res news):=by kernel_rfl)(e:keep.Nodup:=by decide):GSpec P f args fr res news:=
 Zb hints a keep e d fl g b c
def sE{P}(hints:List (Nat×List Hint)) a b fl{c s}{e:Ex}{t}{φ:Prop}(h:φ)(d:Rp fl (EE P hints a b c s t)=φ:=by kernel_rfl)(f:N1 fl (EE P hints a b c s t)=Nb fl (EE P hints a b c s t):=by kernel_rfl)(g:exO (EE P hints a b c s t)=N e:=by kernel_rfl):CSpec P c s e t.st:=
 Zi hints a b fl h d f g
abbrev zW:List AV:=[nI 0, nI 0,.d (.sl 0 []),.d (.sl 0 []),nI 0,nI 0,.d (.sl 0 []),.d (.sl 0 []),.d (.sl 0 []),nI 0,nI 0,nI 0,nI 0,nI 0,nI 0,nI 0]
def bb:∀b:Bool,b=U\/b=Y:=Bool.eq_false_or_eq_true
structure Fq (hs:List (Nat×List Hint)) (cs:List (Nat×Tg×Ex×Tg)) (φ:Prop):Prop where p:φ
def Z13:List Prop->Prop|[]=>True|p::l=>p/\Z13 l
def Z8t:∀{l:List Prop},Z13 l->B9 l|[],_=>trivial|_::_,h=>Ha.2 ⟨h.1,Z8t h.2⟩
def Mq(fl:List Bool):Option ZL→Prop
 |some r=>Z13 (r.ph++Tm fl r.eq)
 |none=>False
theorem OR{fl:List Bool}:∀{r:Option ZL},Mq fl r→Rp fl r
 |some _,h=>Z8t h
section
variable{hs:List (Nat×List Hint)}{cs:List (Nat×Tg×Ex×Tg)}{φ:Prop}
theorem Fz:Fq [] [] True:=⟨trivial⟩
theorem Fa{a:Prop}(h:a)(r:Fq hs cs φ):Fq hs cs (a/\φ):=⟨h,r.p⟩
theorem Fh(n:Nat)(l:List Hint)(r:Fq hs cs φ):Fq ((n,l)::hs) cs φ:=⟨r.p⟩
theorem Fk(c:Nat×Tg×Ex×Tg)(r:Fq hs cs φ):Fq hs (c::cs) φ:=⟨r.p⟩
theorem Fc(n:Nat){P f args fr res news}(h:GSpec P f args fr res news)(r:Fq hs cs φ):Fq ((n,[.call fr res news])::hs) cs (GSpec P f args fr res news/\φ):=⟨h,r.p⟩
theorem Fu{P fn n}{pre:Tg}{e}{post:Tg}(h:CSpec P (Zl fn n) pre.st e post.st)(r:Fq hs cs φ):Fq hs ((n,pre,e,post)::cs) (CSpec P (Zl fn n) pre.st e post.st/\φ):=⟨h,r.p⟩
theorem Ftt(r:Fq hs cs φ):Fq hs cs (U=U/\φ):=⟨rfl,r.p⟩
theorem Fff(r:Fq hs cs φ):Fq hs cs (Y=Y/\φ):=⟨rfl,r.p⟩
theorem Fnl(r:Fq hs cs φ):Fq hs cs (([]:List (List DV))=[]/\φ):=⟨rfl,r.p⟩
theorem Fr{α:Type}(a:α)(r:Fq hs cs φ):Fq hs cs (a=a/\φ):=⟨rfl,r.p⟩
theorem Fo(p:Prop)(r:Fq hs cs φ)(h:p:=by first|(dsimp+zetaDelta only;omega)|omega|(simp only[List.length_cons,List.length_nil];omega)):Fq hs cs (p/\φ):=⟨h,r.p⟩
theorem Fb(p:Prop)(r:Fq hs cs φ)(h:p:=by(simp only[bs];first|(dsimp+zetaDelta only;omega)|omega|(simp only[List.length_cons,List.length_nil];omega))):Fq hs cs (p/\φ):=⟨h,r.p⟩
theorem Ft(n:Nat){b:Bool}(h:b=U)(r:Fq hs cs φ):Fq ((n,[.br U])::hs) cs (b=U/\U=U/\φ):=⟨h,rfl,r.p⟩
theorem Ff(n:Nat){b:Bool}(h:b=Y)(r:Fq hs cs φ):Fq ((n,[.br Y])::hs) cs (b=Y/\Y=Y/\φ):=⟨h,rfl,r.p⟩
theorem Ftb(n:Nat)(b:Bool)(r:Fq hs cs φ)(h:b=U:=by(simp only[bs];first|(dsimp+zetaDelta only;omega)|omega|(simp only[List.length_cons,List.length_nil];omega))):Fq ((n,[.br U])::hs) cs (b=U/\U=U/\φ):=⟨h,rfl,r.p⟩
theorem Ffb(n:Nat)(b:Bool)(r:Fq hs cs φ)(h:b=Y:=by(simp only[bs];first|(dsimp+zetaDelta only;omega)|omega|(simp only[List.length_cons,List.length_nil];omega))):Fq ((n,[.br Y])::hs) cs (b=Y/\Y=Y/\φ):=⟨h,rfl,r.p⟩
theorem Fg(n:Nat){a b:Int}(h:a=b)(r:Fq hs cs φ):Fq ((n,[.int b])::hs) cs (a=b/\φ):=⟨h,r.p⟩
theorem Fgo(n:Nat)(a b:Int)(r:Fq hs cs φ)(h:a=b:=by first|(dsimp+zetaDelta only;omega)|omega|(simp only[List.length_cons,List.length_nil];omega)):Fq ((n,[.int b])::hs) cs (a=b/\φ):=⟨h,r.p⟩
theorem Fi(n:Nat)(x:Int)(r:Fq hs cs φ)(a:-9223372036854775808<=x:=by first|(dsimp+zetaDelta only;omega)|omega|(simp only[List.length_cons,List.length_nil];omega))(b:x<=9223372036854775807:=by first|(dsimp+zetaDelta only;omega)|omega|(simp only[List.length_cons,List.length_nil];omega)):Fq ((n,[.int x])::hs) cs (L.wrap x=x/\φ):=⟨E6 a b,r.p⟩
theorem Fv(n:Nat)(x:Int)(r:Fq hs cs φ)(a:0<=x:=by first|(dsimp+zetaDelta only;omega)|omega|(simp only[List.length_cons,List.length_nil];omega))(b:x<=18446744073709551615:=by first|(dsimp+zetaDelta only;omega)|omega|(simp only[List.length_cons,List.length_nil];omega)):Fq ((n,[.int x])::hs) cs (Lb.wrap x=x/\φ):=⟨Ms a b,r.p⟩
theorem Fl(n:Nat){α:Type}(f:α->List DV)(l:List α)(r:Fq hs cs φ):Fq ((n,[.int (l.length:Int)])::hs) cs (((l.map f).length:Int)=(l.length:Int)/\φ):=⟨by simp only[M],r.p⟩
theorem Fek(n:Nat){α:Type}[Inhabited α](f:α->List DV)(l:List α)(i:Int)(k:Nat)(r:Fq hs cs φ)(a:0<=i:=by first|(dsimp+zetaDelta only;omega)|omega|(simp only[List.length_cons,List.length_nil];omega))(e:i.toNat=k:=by first|(dsimp+zetaDelta only;omega)|omega|(simp only[List.length_cons,List.length_nil];omega))(h:k<l.length:=by first|(dsimp+zetaDelta only;omega)|omega|(simp only[List.length_cons,List.length_nil];omega)):Fq ((n,[.el (f (l.getD k Z))])::hs) cs ((0<=i/\(l.map f)[i.toNat]?=N (f (l.getD k Z)))/\φ):=⟨Zp a e h,r.p⟩
theorem Fe(n:Nat){α:Type}[Inhabited α](f:α->List DV)(l:List α)(i:Int)(r:Fq hs cs φ)(a:0<=i:=by first|(dsimp+zetaDelta only;omega)|omega|(simp only[List.length_cons,List.length_nil];omega))(h:i.toNat<l.length:=by first|(dsimp+zetaDelta only;omega)|omega|(simp only[List.length_cons,List.length_nil];omega)):Fq ((n,[.el (f (l.getD i.toNat Z))])::hs) cs ((0<=i/\(l.map f)[i.toNat]?=N (f (l.getD i.toNat Z)))/\φ):=⟨Zp a rfl h,r.p⟩
theorem Fs(n:Nat)(a:List (List DV))(r:Fq hs cs φ):Fq ((n,[.els a])::hs) cs (a=a/\φ):=⟨rfl,r.p⟩
theorem Fx(n:Nat)(i:Nat)(r:Fq hs cs φ)(h:(i:Int)+1<=9223372036854775807:=by first|(dsimp+zetaDelta only;omega)|omega|(simp only[List.length_cons,List.length_nil];omega)):Fq ((n,[.int ((i+1:Nat):Int)])::hs) cs (L.wrap ((i:Int)+1)=((i+1:Nat):Int)/\φ):=⟨Zf rfl oq oq,r.p⟩
theorem Fw(n:Nat)(a b:Int)(r:Fq hs cs φ)(h:a=b:=by first|(dsimp+zetaDelta only;omega)|omega|(simp only[List.length_cons,List.length_nil];omega))(c:-9223372036854775808<=b:=by first|(dsimp+zetaDelta only;omega)|omega|(simp only[List.length_cons,List.length_nil];omega))(d:b<=9223372036854775807:=by first|(dsimp+zetaDelta only;omega)|omega|(simp only[List.length_cons,List.length_nil];omega)):Fq ((n,[.int b])::hs) cs (L.wrap a=b/\φ):=⟨by rw[h];exact E6 c d,r.p⟩
theorem FiG(n:Nat)(c:Bool)(x:Int)(r:Fq hs cs φ)(h:c=U->-9223372036854775808<=x/\x<=9223372036854775807:=by intro a;(try simp only[bs]at a);first|(dsimp+zetaDelta only at a⊢;omega)|omega):Fq ((n,[.int x])::hs) cs ((c=U->L.wrap x=x)/\φ):=⟨λq=>E6 (h q).1 (h q).2,r.p⟩
theorem FvG(n:Nat)(c:Bool)(x:Int)(r:Fq hs cs φ)(h:c=U->0<=x/\x<=18446744073709551615:=by intro a;(try simp only[bs]at a);first|(dsimp+zetaDelta only at a⊢;omega)|omega):Fq ((n,[.int x])::hs) cs ((c=U->Lb.wrap x=x)/\φ):=⟨λq=>Ms (h q).1 (h q).2,r.p⟩
theorem FlG(n:Nat)(c:Bool){α:Type}(f:α->List DV)(l:List α)(r:Fq hs cs φ):Fq ((n,[.int (l.length:Int)])::hs) cs ((c=U->((l.map f).length:Int)=(l.length:Int))/\φ):=⟨λ_=>by simp only[M],r.p⟩
theorem FeG(n:Nat)(c:Bool){α:Type}[Inhabited α](f:α->List DV)(l:List α)(i:Int)(k:Nat)(r:Fq hs cs φ)(h:c=U->0<=i/\i.toNat=k/\k<l.length:=by intro a;(try simp only[bs]at a);first|(dsimp+zetaDelta only at a⊢;omega)|omega):Fq ((n,[.el (f (l.getD k Z))])::hs) cs ((c=U->0<=i/\(l.map f)[i.toNat]?=N (f (l.getD k Z)))/\φ):=⟨λq=>Zp (h q).1 (h q).2.1 (h q).2.2,r.p⟩
theorem el2{α}[Inhabited α](f:α->List DV){l:List α}{i:Int}{k:Nat}(h:i.toNat=k/\k<l.length):(l.map f)[i.toNat]?=N (f (l.getD k Z)):=by rw[h.1,List.getElem?_map,List.getD_eq_getElem?_getD,List.getElem?_eq_getElem h.2];rfl
theorem Fm0{α}[Inhabited α](f:α->List DV)(l:List α)(i:Int)(k:Nat)(r:Fq hs cs φ)(h:0<=i/\i.toNat=k/\k<l.length:=by first|(dsimp+zetaDelta only;omega)|omega|(simp only[List.length_cons,List.length_nil];omega)):Fq hs cs ((0<=i/\i.toNat<(l.map f).length)/\(l.map f)[i.toNat]?=N (f (l.getD k Z))/\φ):=⟨⟨h.1,by rw[M];omega⟩,el2 f h.2,r.p⟩
theorem Fm(n:Nat){α}[Inhabited α](f:α->List DV)(l:List α)(i:Int)(k:Nat)(r:Fq hs cs φ)(h:0<=i/\i.toNat=k/\k<l.length:=by first|(dsimp+zetaDelta only;omega)|omega|(simp only[List.length_cons,List.length_nil];omega)):Fq ((n,[.el (f (l.getD k Z))])::hs) cs ((0<=i/\i.toNat<(l.map f).length)/\(l.map f)[i.toNat]?=N (f (l.getD k Z))/\φ):=⟨⟨h.1,by rw[M];omega⟩,el2 f h.2,r.p⟩
theorem FmG(n:Nat)(c:Bool){α}[Inhabited α](f:α->List DV)(l:List α)(i:Int)(k:Nat)(r:Fq hs cs φ)(h:c=U->0<=i/\i.toNat=k/\k<l.length:=by intro a;(try simp only[bs]at a);first|(dsimp+zetaDelta only at a⊢;omega)|omega):Fq ((n,[.el (f (l.getD k Z))])::hs) cs ((c=U->0<=i/\i.toNat<(l.map f).length)/\(c=U->(l.map f)[i.toNat]?=N (f (l.getD k Z)))/\φ):=⟨λq=>⟨(h q).1,by rw[M];have:=h q;omega⟩,λq=>el2 f (h q).2,r.p⟩
theorem FS(n:Nat){α:Type}(f:α->List DV)(l:List α)(i:Nat)(p:α)(e:List DV)(r:Fq hs cs φ):Fq ((n,[.el e,.els ((l.set i p).map f)])::hs) cs ((l.map f).set i (f p)=(l.set i p).map f/\φ):=⟨by rw[List.map_set],r.p⟩
theorem FcG(n:Nat)(c:Bool){P f args fr res news}(h:c=U->GSpec P f args fr res news)(r:Fq hs cs φ):Fq ((n,[.call fr res news])::hs) cs ((c=U->GSpec P f args fr res news)/\φ):=⟨h,r.p⟩
theorem gF{P:Program}{f:Nat}{fn args fr res news} keep(c:P.funcs[f]?=N fn) fl(h:Fq hs cs φ)(a:Mq fl (Iv P hs cs keep fn args fr res news)=φ:=by kernel_rfl)(b:N1 fl (Iv P hs cs keep fn args fr res news)=Nb fl (Iv P hs cs keep fn args fr res news):=by kernel_rfl)(d:keep.Nodup:=by decide):GSpec P f args fr res news:=
 Zb hs cs keep d c fl (OR (Eq.mpr a h.p)) rfl b
theorem sF{P} a fl{c s}{e:Ex}{t}(h:Fq hs cs φ)(b:Mq fl (EE P hs cs a c s t)=φ:=by kernel_rfl)(d:N1 fl (EE P hs cs a c s t)=Nb fl (EE P hs cs a c s t):=by kernel_rfl)(f:exO (EE P hs cs a c s t)=N e:=by kernel_rfl):CSpec P c s e t.st:=
 Zi hs cs a fl (OR (Eq.mpr b h.p)) rfl d f
end
abbrev fO(n:Nat):List Bool:=Lj n Y++[U]
abbrev fP(n:Nat):List Bool:=Lj n Y++[U,U]
section
variable{hs:List (Nat×List Hint)}{cs:List (Nat×Tg×Ex×Tg)}{φ:Prop}
theorem Fts(n:Nat)(b:Bool)(r:Fq hs cs φ)(h:b=U:=by simp only[bs, *,true_or,or_true,true_and,and_true,not_true_eq_false,not_false_eq_true,Bool.true_eq_false,Bool.false_eq_true]):Fq ((n,[.br U])::hs) cs (b=U/\U=U/\φ):=⟨h,rfl,r.p⟩
theorem Ffs(n:Nat)(b:Bool)(r:Fq hs cs φ)(h:b=Y:=by simp only[bs, *,true_or,or_true,true_and,and_true,not_true_eq_false,not_false_eq_true,Bool.true_eq_false,Bool.false_eq_true]):Fq ((n,[.br Y])::hs) cs (b=Y/\Y=Y/\φ):=⟨h,rfl,r.p⟩
theorem Fbs(p:Prop)(r:Fq hs cs φ)(h:p:=by simp only[bs, *,true_or,or_true,true_and,and_true,not_true_eq_false,not_false_eq_true,Bool.true_eq_false,Bool.false_eq_true]):Fq hs cs (p/\φ):=⟨h,r.p⟩
theorem FAx(n m:Nat){α:Type}(f:α->List DV)(l:List α)(h:(X f []).length+(X f l).length<=2^30)(r:Fq hs cs φ):Fq ((n,[.els (X f [])])::(m,[.els (X f l)])::hs) cs (X f []=X f []/\((X f []).length+(X f l).length<=2^30)/\X f l=X f l/\φ):=⟨rfl,h,rfl,r.p⟩
theorem FA(n m:Nat){α:Type}(f:α->List DV)(l:List α)(r:Fq hs cs φ)(h:l.length<=1073741824:=by first|omega|(simp[*];omega)):Fq ((n,[.els (X f [])])::(m,[.els (X f l)])::hs) cs (X f []=X f []/\((X f []).length+(X f l).length<=2^30)/\X f l=X f l/\φ):=
 FAx n m f l (by rw[M,M];simpa using h) r
theorem FBx(m k:Nat){α:Type}(f:α->List DV)(l:List α)(x:α)(h:(X f l).length+(X f [x]).length<=2^30)(r:Fq hs cs φ):Fq ((m,[.els (X f [x])])::(k,[.els (X f (l++[x]))])::hs) cs (X f [x]=X f [x]/\((X f l).length+(X f [x]).length<=2^30)/\X f l++X f [x]=X f (l++[x])/\φ):=⟨rfl,h,List.map_append.symm,r.p⟩
theorem FB(m k:Nat){α:Type}(f:α->List DV)(l:List α)(x:α)(r:Fq hs cs φ)(h:l.length<1073741824:=by first|omega|(simp[*];omega)):Fq ((m,[.els (X f [x])])::(k,[.els (X f (l++[x]))])::hs) cs (X f [x]=X f [x]/\((X f l).length+(X f [x]).length<=2^30)/\X f l++X f [x]=X f (l++[x])/\φ):=
 FBx m k f l x (by rw[M,M];simp only[List.length_cons,List.length_nil];omega) r
theorem FM(a b:Nat){α:Type}(f:α->List DV)(l:List α)(i:Nat)(r:Fq hs cs φ)(h:i<l.length:=by first|(dsimp+zetaDelta only;omega)|omega|(simp only[List.length_cons,List.length_nil];omega)):Fq ((a,[.int (l.length:Int)])::(b,[.br U])::hs) cs (((l.map f).length:Int)=(l.length:Int)/\decide ((i:Int)<(l.length:Int))=U/\U=U/\φ):=⟨by rw[M],decide_eq_true oq,rfl,r.p⟩
theorem FN(a b c:Nat){α:Type}[Inhabited α](f:α->List DV)(l:List α)(i:Nat)(r:Fq hs cs φ)(h:i<l.length:=by first|(dsimp+zetaDelta only;omega)|omega|(simp only[List.length_cons,List.length_nil];omega)):Fq ((a,[.int (l.length:Int)])::(b,[.br U])::(c,[.el (f (l.getD i Z))])::hs) cs (((l.map f).length:Int)=(l.length:Int)/\decide ((i:Int)<(l.length:Int))=U/\U=U/\(0<=(i:Int)/\(l.map f)[(i:Int).toNat]?=N (f (l.getD i Z)))/\φ):=⟨by rw[M],decide_eq_true oq,rfl,Zp oq oq h,r.p⟩
theorem FO(a b:Nat){α:Type}(f:α->List DV)(l:List α)(r:Fq hs cs φ):Fq ((a,[.int (l.length:Int)])::(b,[.br Y])::hs) cs (((l.map f).length:Int)=(l.length:Int)/\decide ((l.length:Int)<(l.length:Int))=Y/\Y=Y/\φ):=⟨by rw[M],decide_eq_false oq,rfl,r.p⟩
theorem Fm0q{α}[Inhabited α](f:α->List DV)(l:List α)(i:Int)(r:Fq hs cs φ)(h:0<=i/\i.toNat<l.length:=by first|(dsimp+zetaDelta only;omega)|omega|(simp only[List.length_cons,List.length_nil];omega)):Fq hs cs ((0<=i/\i.toNat<(l.map f).length)/\(l.map f)[i.toNat]?=N (f (l.getD i.toNat Z))/\φ):=Fm0 f l i i.toNat r ⟨h.1,rfl,h.2⟩
theorem Fmq(n:Nat){α}[Inhabited α](f:α->List DV)(l:List α)(i:Int)(r:Fq hs cs φ)(h:0<=i/\i.toNat<l.length:=by first|(dsimp+zetaDelta only;omega)|omega|(simp only[List.length_cons,List.length_nil];omega)):Fq ((n,[.el (f (l.getD i.toNat Z))])::hs) cs ((0<=i/\i.toNat<(l.map f).length)/\(l.map f)[i.toNat]?=N (f (l.getD i.toNat Z))/\φ):=Fm n f l i i.toNat r ⟨h.1,rfl,h.2⟩
theorem FmGq(n:Nat)(c:Bool){α}[Inhabited α](f:α->List DV)(l:List α)(i:Int)(r:Fq hs cs φ)(h:c=U->0<=i/\i.toNat<l.length:=by intro a;(try simp only[bs]at a);first|(dsimp+zetaDelta only at a⊢;omega)|omega):Fq ((n,[.el (f (l.getD i.toNat Z))])::hs) cs ((c=U->0<=i/\i.toNat<(l.map f).length)/\(c=U->(l.map f)[i.toNat]?=N (f (l.getD i.toNat Z)))/\φ):=FmG n c f l i i.toNat r (λq=>⟨(h q).1,rfl,(h q).2⟩)
theorem FeGq(n:Nat)(c:Bool){α:Type}[Inhabited α](f:α->List DV)(l:List α)(i:Int)(r:Fq hs cs φ)(h:c=U->0<=i/\i.toNat<l.length:=by intro a;(try simp only[bs]at a);first|(dsimp+zetaDelta only at a⊢;omega)|omega):Fq ((n,[.el (f (l.getD i.toNat Z))])::hs) cs ((c=U->0<=i/\(l.map f)[i.toNat]?=N (f (l.getD i.toNat Z)))/\φ):=FeG n c f l i i.toNat r (λq=>⟨(h q).1,rfl,(h q).2⟩)
theorem Fe2(c:Bool){α:Type}[Inhabited α](f:α->List DV)(l:List α)(i:Int)(k:Nat)(r:Fq hs cs φ)(h:c=U->0<=i/\i.toNat=k/\k<l.length:=by intro a;(try simp only[bs]at a);first|(dsimp+zetaDelta only at a⊢;omega)|omega):Fq hs cs ((c=U->0<=i/\(l.map f)[i.toNat]?=N (f (l.getD k Z)))/\φ):=⟨(FeG 0 c f l i k r h).p.1,r.p⟩
theorem Fe2q(c:Bool){α:Type}[Inhabited α](f:α->List DV)(l:List α)(i:Int)(r:Fq hs cs φ)(h:c=U->0<=i/\i.toNat<l.length:=by intro a;(try simp only[bs]at a);first|(dsimp+zetaDelta only at a⊢;omega)|omega):Fq hs cs ((c=U->0<=i/\(l.map f)[i.toNat]?=N (f (l.getD i.toNat Z)))/\φ):=⟨(FeGq 0 c f l i r h).p.1,r.p⟩
theorem Fm2(c:Bool){α}[Inhabited α](f:α->List DV)(l:List α)(i:Int)(k:Nat)(r:Fq hs cs φ)(h:c=U->0<=i/\i.toNat=k/\k<l.length:=by intro a;(try simp only[bs]at a);first|(dsimp+zetaDelta only at a⊢;omega)|omega):Fq hs cs ((c=U->0<=i/\i.toNat<(l.map f).length)/\(c=U->(l.map f)[i.toNat]?=N (f (l.getD k Z)))/\φ):=(⟨(FmG 0 c f l i k r h).p⟩:Fq hs cs _)
theorem Fm2q(c:Bool){α}[Inhabited α](f:α->List DV)(l:List α)(i:Int)(r:Fq hs cs φ)(h:c=U->0<=i/\i.toNat<l.length:=by intro a;(try simp only[bs]at a);first|(dsimp+zetaDelta only at a⊢;omega)|omega):Fq hs cs ((c=U->0<=i/\i.toNat<(l.map f).length)/\(c=U->(l.map f)[i.toNat]?=N (f (l.getD i.toNat Z)))/\φ):=(⟨(FmGq 0 c f l i r h).p⟩:Fq hs cs _)
end
section
variable{hs:List (Nat×List Hint)}{cs:List (Nat×Tg×Ex×Tg)}{φ0:Prop}
theorem Fbr(n:Nat)(ls:List Nat){P f args pre res post}(h:BorSpec P f args pre res post)(r:Fq hs cs φ0):Fq ((n,[.bor ls res post])::hs) cs (BorSpec P f args pre res post/\φ0):=⟨h,r.p⟩
theorem Fbq(n:Nat)(ls:List Nat){P f args pre res post}(h:BorSpec P f args pre res post)(r:Fq hs cs φ0):Fq ((n,[.bor ls res []])::hs) cs (BorSpec P f args pre res post/\φ0):=⟨h,r.p⟩
theorem Fp(n:Nat){P f args pre res post}(h:BorSpec P f args pre res post)(r:Fq hs cs φ0):Fq ((n,[.bor [0] res post])::hs) cs (BorSpec P f args pre res post/\φ0):=⟨h,r.p⟩
end
def sj{p:Prop}(h:p:=by((repeat' split)<;>first|rfl|omega|(exfalso;omega)|simp_all)):p:=h
def ms{p:Prop}(h:p:=by simp[List.map_take,List.map_drop,List.map_set,List.map_append,wD,iD]):p:=h
end Go.Sx
