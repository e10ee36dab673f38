/-
 The statement EvacuateOnce: part 6.
 Conditions: none.
-/
import Derived.Laws.Bits64b
import Derived.Test.YtdhchmlalchgeaaGreatE5
set_option maxRecDepth 100000
set_option maxHeartbeats 2000000
set_option linter.all false
namespace Go.Sx
def eqDV:DV→DV→List Prop
 | .sc (.int k a),.sc (.int k' b)=>if ikEq k k' then [a=b]else [DV.sc (.int k a) = .sc (.int k' b)]
 | .sc (.bool a),.sc (.bool b)=>[a=b]
 | .sl s a,.sl s' b=>if s=s' then [a=b]else [DV.sl s a = .sl s' b]
 | x,y=>[x=y]
def Zcr:AV→AV→List Prop
 | .d x,.d y=>eqDV x y
 | x,y=>[x=y]
def eqL(f:AV→AV→List Prop):List AV→List AV→List Prop
 | a::l,b::m=>f a b++eqL f l m
 | [],[]=>[]
 | l,m=>[l=m]
def eqA:AV→AV→List Prop
 | .ag l,.ag m=>eqL Zcr l m
 | .tu l,.tu m=>eqL Zcr l m
 | x,y=>Zcr x y
def eqT:AV→AV→List Prop
 | .tu l,.tu m=>eqL eqA l m
 | x,y=>eqA x y
theorem ZnN{x y:DV}(h:allP (eqDV x y)):x=y:=by
 unfold eqDV at h;split at h
 ·split at h
  ·rename_i hk;have:=Zeu hk;simp only[allP]at h;rw[this,h]
  ·exact h
 ·simp only[allP]at h;rw[h]
 ·split at h
  ·rename_i hk;simp only[allP]at h;rw[hk,h]
  ·exact h
 ·exact h
theorem Z8o{x y:AV}(h:allP (Zcr x y)):x=y:=by
 unfold Zcr at h;split at h
 ·rw[ZnN h]
 ·exact h
theorem ZfQ{f:AV→AV→List Prop}(hf:∀ x y,allP (f x y)→x=y):∀ {l m:List AV},allP (eqL f l m)→l=m
 | [],[],_=>rfl
 | a::l,b::m,h=>by
  obtain⟨h1,h2⟩:=allP_append.1 h;rw[hf a b h1,ZfQ hf h2]
 | [],b::m,h=>h
 | a::l,[],h=>h
theorem ZmL{x y:AV}(h:allP (eqA x y)):x=y:=by
 unfold eqA at h;split at h
 ·rw[ZfQ (fun _ _=>Z8o) h]
 ·rw[ZfQ (fun _ _=>Z8o) h]
 ·exact Z8o h
theorem ZpR{x y:AV}(h:allP (eqT x y)):x=y:=by
 unfold eqT at h;split at h
 ·rw[ZfQ (fun _ _=>ZmL) h]
 ·exact ZmL h
def selP:List Bool→List (AV×AV)→List Prop
 | true::fl,p::l=>eqT p.1 p.2++selP fl l
 | false::fl,_::l=>selP fl l
 | _,_=>[]
def Zer:List Bool→List (AV×AV)→List (AV×AV)
 | true::fl,_::l=>Zer fl l
 | false::fl,p::l=>p::Zer fl l
 | _,l=>l
theorem ZeP:∀ {fl:List Bool} {l:List (AV×AV)},allP (selP fl l)→(Zer fl l).map (·.1)=(Zer fl l).map (·.2)→l.map (·.1)=l.map (·.2)
 | [],l,_,h=>by cases l<;>exact h
 | true::fl,[],_,_=>rfl
 | false::fl,[],_,_=>rfl
 | true::fl,p::l,h,k=>by
  obtain⟨h1,h2⟩:=allP_append.1 h;simp only[List.map_cons,ZpR h1,ZeP h2 k]
 | false::fl,p::l,h,k=>by
  simp only[Zer,List.map_cons,List.cons.injEq]at k;simp only[List.map_cons,k.1,ZeP (fl:=fl) h k.2]
def oblE(fl:List Bool):Option Run→Prop
 | some r=>allP (r.ph++selP fl r.eq)
 | none=>False
def lefE(fl:List Bool):Option Run→List AV
 | some r=>(Zer fl r.eq).map (·.1)
 | none=>[]
def rigE(fl:List Bool):Option Run→List AV
 | some r=>(Zer fl r.eq).map (·.2)
 | none=>[]
theorem Z5g{fl:List Bool}{r:Option Run}(h:oblE fl r)(k:lefE fl r=rigE fl r):oblO r∧lefO r=rigO r:=by
 cases r with
 | none=>exact h.elim
 | some r =>
  obtain⟨h1,h2⟩:=allP_append.1 h;exact⟨h1,ZeP h2 k⟩
theorem gspec_ofE{P:Program}{f:Nat}{fn:Func}{args:List AV}{fr:Bool}{res:AV}{news:List Blk}(hints:List (Nat×List Hint))(cuts:List (Nat×Tg×Ex×Tg))(keep:List Nat)(hkeep:keep.Nodup)
  (hf:P.funcs[f]? = some fn) (fl:List Bool) {φ:Prop} (hφ:φ) (h1:oblE fl (runF P hints cuts keep fn args fr res news)=φ) (h2:lefE fl (runF P hints cuts keep fn args fr res news)=rigE fl (runF P hints cuts keep fn args fr res news)):GSpec P f args fr res news:=by
 rw[← h1]at hφ;obtain⟨k1,k2⟩:=Z5g hφ h2;exact Z0i hints cuts keep hkeep hf k1 rfl k2
theorem stretchE{P:Program}(hints:List (Nat×List Hint))(cuts:List (Nat×Tg×Ex×Tg))(ren:List (Nat×Nat))(fl:List Bool){c:Code}{s:St}{e:Ex}{t:Tg}{φ:Prop}(hφ:φ)
  (h1:oblE fl (runToR P hints cuts ren c s t)=φ) (h2:lefE fl (runToR P hints cuts ren c s t)=rigE fl (runToR P hints cuts ren c s t)) (h3:exO (runToR P hints cuts ren c s t)=some e):CSpec P c s e t.st:=by
 rw[← h1]at hφ;obtain⟨k1,k2⟩:=Z5g hφ h2;exact Z4u hints cuts ren k1 rfl k2 h3
def LSpec(P:Program)(fn:Func)(b:Nat)(s:St)(e:Ex)(t:St):Prop:=∃ k,Z2G P (rndF fn b) k s e t
theorem LSpec.next{P:Program}{fn:Func}{b:Nat}{s s' t:St}{e:Ex}(h:CSpec P (rndF fn b) s .nrm s')(k:LSpec P fn b s' e t):LSpec P fn b s e t:=let ⟨n,k⟩:=k;⟨n+1,rounds h k⟩
theorem LSpec.done{P:Program}{fn:Func}{b:Nat}{s t:St}{e:Ex}(he:e≠.nrm)(h:CSpec P (rndF fn b) s e t):LSpec P fn b s e t:=⟨0,he,h⟩
theorem LSpec.ext{P:Program}{fn:Func}{b:Nat}{s t:St}(hb:Z6Z b (blkF fn b)=true)(h:LSpec P fn b s (.ext b) t):CSpec P (blkF fn b) s .nrm t:=let ⟨_,h⟩:=h;ZbT hb h
theorem LSpec.ret{P:Program}{fn:Func}{b:Nat}{s t:St}(hb:Z6Z b (blkF fn b)=true)(h:LSpec P fn b s .ret t):CSpec P (blkF fn b) s .ret t:=let ⟨_,h⟩:=h;ZbO hb h
theorem LSpec.endx{P:Program}{fn:Func}{b n:Nat}{s t:St}(h:CSpec P (rndF fn b) s (.ext n) t):LSpec P fn b s (.ext n) t:=.done (fun h=>nomatch h) h
theorem LSpec.endr{P:Program}{fn:Func}{b:Nat}{s t:St}(h:CSpec P (rndF fn b) s .ret t):LSpec P fn b s .ret t:=.done (fun h=>nomatch h) h
def Z0q(l:List Int):AV:=.d (.sl 1 (l.map idv))
theorem bs:(∀ a b:Bool,((a&&b)=true)=(a=true∧b=true))∧(∀ a b:Bool,((a||b)=true)=(a=true∨b=true))∧(∀ (p:Prop) [Decidable p],(decide p=true)=p)∧(∀ (p:Prop) [Decidable p],(decide p=false)=¬ p) ∧
  (∀ a:Bool,((!a)=true)=(a=false))∧(∀ a:Bool,((!a)=false)=(a=true))∧(∀ a b:Bool,((a&&b)=false)=(a=false∨b=false))∧(∀ a b:Bool,((a||b)=false)=(a=false∧b=false)) ∧
  (∀ a b:Int,((a==b)=true)=(a=b))∧(∀ a b:Int,((a==b)=false)=¬ (a=b))∧(∀ a b:Bool,((a==b)=true)=(a=true↔b=true))∧(∀ p q:Prop,(¬ (p∧q))=(p→¬ q))∧(∀ p q:Prop,(¬ (p∨q))=(¬ p∧¬ q))∧(∀ p:Prop,(¬ ¬ p)=p)∧(∀ a b:Int,((a != b)=true)=¬ (a=b))∧(∀ a b:Int,((a != b)=false)=(a=b))∧(∀ a b:Bool,((a != b)=true)=¬ (a=true↔b=true))∧(∀ a b:Bool,((a != b)=false)=(a=true↔b=true))∧(∀ a b:Bool,((a==b)=false)=¬ (a=true↔b=true)):=by
 refine⟨by simp,by simp,by simp,by simp,by simp,by simp, ?_,by simp,by simp,by simp, ?_,by simp,by simp,by simp,by simp,by simp, ?_, ?_, ?_⟩<;>intro a b<;>cases a<;>cases b<;>simp
theorem wrapI'{n:Int}(h1:-9223372036854775808≤n)(h2:n≤9223372036854775807):IntKind.i64.wrap n=n:=IntWalk.i64_in n ⟨h1,h2⟩
theorem wrapU'{n:Int}(h1:0≤n)(h2:n≤18446744073709551615):IntKind.u64.wrap n=n:=IntWalk.u64_in n ⟨h1,h2⟩
theorem wrapI2{n m:Int}(e:n=m)(h1:-9223372036854775808≤m)(h2:m≤9223372036854775807):IntKind.i64.wrap n=m:=e▸wrapI' (e▸h1) (e▸h2)
theorem wrapU2{n m:Int}(e:n=m)(h1:0≤m)(h2:m≤18446744073709551615):IntKind.u64.wrap n=m:=e▸wrapU' (e▸h1) (e▸h2)
theorem wrap32(n:Int):IntKind.u32.wrap n=n%4294967296:=by rw[IntKind.wrap_u32]
theorem ZbD{n:Int}(h1:0≤n)(h2:n≤4294967295):IntKind.u32.wrap n=n:=by rw[wrap32];omega
theorem Z50{a b m:Int}(e:b=m)(h:0≤m):a.fdiv b=a/m:=by rw[e];exact Int.fdiv_eq_ediv_of_nonneg a h
theorem Z3h(k:Nat)(hk:k≤63){x m:Int}(e:m=2^k-1)(h0:0≤x)(h1:x≤18446744073709551615):bits .and .u64 x m=x%2^k:=by
 have hp:(2:Nat)^k≤2^63:=Nat.pow_le_pow_right dd hk;have hp0:1≤(2:Nat)^k:=Nat.one_le_two_pow;have h:=bits_and_u64_nat x.toNat (2^k-1) oq oq
 rw[Nat.and_two_pow_sub_one_eq_mod,Int.toNat_of_nonneg h0]at h;have e2:(((2:Nat)^k-1:Nat):Int)=m:=by rw[e];push_cast [hp0];rfl
 rw[e2]at h;rw[h,Int.natCast_emod,Int.toNat_of_nonneg h0];simp
theorem bits_and_u32_nat(a b:Nat)(ha:a<4294967296)(hb:b<4294967296):bits .and .u32 (a:Int) (b:Int)=((a &&& b:Nat):Int):=by
 have hx:a &&& b<2^32:=Nat.and_lt_two_pow _ oq;have h1:(BitVec.ofInt 32 (a:Int)).toNat=a:=by
  rw[BitVec.ofInt_natCast,BitVec.toNat_ofNat];exact Nat.mod_eq_of_lt oq
 have h2:(BitVec.ofInt 32 (b:Int)).toNat=b:=by
  rw[BitVec.ofInt_natCast,BitVec.toNat_ofNat];exact Nat.mod_eq_of_lt oq
 show IntKind.u32.wrap ((BitVec.ofInt 32 (a:Int) &&& BitVec.ofInt 32 (b:Int)).toNat:Int)=_;rw[BitVec.toNat_and,h1,h2,IntKind.wrap_u32];omega
theorem ZgW(k:Nat)(hk:k≤31){x m:Int}(e:m=2^k-1)(h0:0≤x)(h1:x≤4294967295):bits .and .u32 x m=x%2^k:=by
 have hp:(2:Nat)^k≤2^31:=Nat.pow_le_pow_right dd hk;have hp0:1≤(2:Nat)^k:=Nat.one_le_two_pow;have h:=bits_and_u32_nat x.toNat (2^k-1) oq oq
 rw[Nat.and_two_pow_sub_one_eq_mod,Int.toNat_of_nonneg h0]at h;have e2:(((2:Nat)^k-1:Nat):Int)=m:=by rw[e];push_cast [hp0];rfl
 rw[e2]at h;rw[h,Int.natCast_emod,Int.toNat_of_nonneg h0];simp
theorem Z2I(l:List Int):Z0S (l.map wdv):=by
 intro e he x hx;obtain⟨y,_,rfl⟩:=List.mem_map.1 he;simp[wdv]at hx;exact⟨_,hx⟩
theorem Z6C(l:List Int):Z0S (l.map idv):=by
 intro e he x hx;obtain⟨y,_,rfl⟩:=List.mem_map.1 he;simp[idv]at hx;exact⟨_,hx⟩
theorem Z0C{α:Type}{f:α→List DV}{l:List α}{n:Nat}{d:α}(h:n<l.length):(l.map f)[n]? = some (f (l.getD n d)):=by
 simp[List.getD,h]
theorem elI{α:Type}{f:α→List DV}{l:List α}{n:Int}{k:Nat}{d:α}(h0:0≤n)(e:n.toNat=k)(h:k<l.length):0≤n∧(l.map f)[n.toNat]? = some (f (l.getD k d)):=by
 subst e;exact⟨h0,Z0C h⟩
theorem an{a b:Prop}(x:a)(y:b):a∧b:=⟨x,y⟩
theorem rf{α:Type}(a:α):a=a:=rfl
theorem tt:true=true:=rfl
theorem nl:([]:List (List DV))=[]:=rfl
abbrev bT(n:Nat):Nat×List Hint:=(n,[.br true])
abbrev bF(n:Nat):Nat×List Hint:=(n,[.br false])
theorem bo(p:Prop)(h:p:=by(simp only[bs];first | (dsimp+zetaDelta only;omega) | omega | (simp only[List.length_cons,List.length_nil];omega))):p:=h
theorem om(p:Prop)(h:p:=by first | (dsimp+zetaDelta only;omega) | omega | (simp only[List.length_cons,List.length_nil];omega)):p:=h
theorem lm(p:Prop)(h:p:=by simp only[List.length_map]):p:=h
theorem wI(p:Prop)(h:p:=by exact wrapI2 rfl oq oq):p:=h
theorem wU(p:Prop)(h:p:=by exact wrapU2 rfl oq oq):p:=h
theorem eI(p:Prop)(h:p:=by exact elI oq oq oq):p:=h
def cutOf{P:Program}{fn:Func}{n:Nat}{pre:Tg}{e:Ex}{post:Tg}(_:CSpec P (blkF fn n) pre.st e post.st):Nat×Tg×Ex×Tg:=(n,pre,e,post)
theorem gE{P:Program}{f:Nat}{fn:Func}{args:List AV}{fr:Bool}{res:AV}{news:List Blk}(hints:List (Nat×List Hint))(cuts:List (Nat×Tg×Ex×Tg))(keep:List Nat)
  (hf:P.funcs[f]? = some fn) (fl:List Bool) {φ:Prop} (hφ:φ) (h1:oblE fl (runF P hints cuts keep fn args fr res news)=φ:=by kernel_rfl) (h2:lefE fl (runF P hints cuts keep fn args fr res news)=rigE fl (runF P hints cuts keep fn args fr res news):=by kernel_rfl) (hk:keep.Nodup:=by decide):GSpec P f args fr res news :=
 gspec_ofE hints cuts keep hk hf fl hφ h1 h2
theorem sE{P:Program}(hints:List (Nat×List Hint))(cuts:List (Nat×Tg×Ex×Tg))(ren:List (Nat×Nat))(fl:List Bool){c:Code}{s:St}{e:Ex}{t:Tg}{φ:Prop}(hφ:φ)
  (h1:oblE fl (runToR P hints cuts ren c s t)=φ:=by kernel_rfl) (h2:lefE fl (runToR P hints cuts ren c s t)=rigE fl (runToR P hints cuts ren c s t):=by kernel_rfl) (h3:exO (runToR P hints cuts ren c s t)=some e:=by kernel_rfl):CSpec P c s e t.st :=
 stretchE hints cuts ren fl hφ h1 h2 h3
abbrev zW:List AV:=[int 0, int 0,.d (.sl 0 []),.d (.sl 0 []),int 0,int 0,.d (.sl 0 []),.d (.sl 0 []),.d (.sl 0 []),int 0,int 0,int 0,int 0,int 0,int 0,int 0]
theorem bb:∀ b:Bool,b=true∨b=false:=Bool.eq_false_or_eq_true
structure Fq (hs:List (Nat×List Hint)) (cs:List (Nat×Tg×Ex×Tg)) (φ:Prop):Prop where p:φ
def andT:List Prop→Prop
 | []=>True
 | p::l=>p∧andT l
theorem andT_all:∀ {l:List Prop},andT l→allP l
 | [],_=>trivial
 | _::_,h=>allP_cons.2 ⟨h.1,andT_all h.2⟩
def oblF(fl:List Bool):Option Run→Prop
 | some r=>andT (r.ph++selP fl r.eq)
 | none=>False
theorem oblF_E{fl:List Bool}:∀ {r:Option Run},oblF fl r→oblE fl r
 | some _,h=>andT_all h
section
variable {hs:List (Nat×List Hint)} {cs:List (Nat×Tg×Ex×Tg)} {φ:Prop}
theorem Fz:Fq [] [] True:=⟨trivial⟩
theorem Fa{a:Prop}(h:a)(r:Fq hs cs φ):Fq hs cs (a∧φ):=⟨h,r.p⟩
theorem Fh(n:Nat)(l:List Hint)(r:Fq hs cs φ):Fq ((n,l)::hs) cs φ:=⟨r.p⟩
theorem Fk(c:Nat×Tg×Ex×Tg)(r:Fq hs cs φ):Fq hs (c::cs) φ:=⟨r.p⟩
theorem Fc(n:Nat){P:Program}{f:Nat}{args:List AV}{fr:Bool}{res:AV}{news:List Blk}(h:GSpec P f args fr res news)(r:Fq hs cs φ):Fq ((n,[.call fr res news])::hs) cs (GSpec P f args fr res news∧φ):=⟨h,r.p⟩
theorem Fu{P:Program}{fn:Func}{n:Nat}{pre:Tg}{e:Ex}{post:Tg}(h:CSpec P (blkF fn n) pre.st e post.st)(r:Fq hs cs φ):Fq hs ((n,pre,e,post)::cs) (CSpec P (blkF fn n) pre.st e post.st∧φ):=⟨h,r.p⟩
theorem Ftt(r:Fq hs cs φ):Fq hs cs (true=true∧φ):=⟨rfl,r.p⟩
theorem Fff(r:Fq hs cs φ):Fq hs cs (false=false∧φ):=⟨rfl,r.p⟩
theorem Fnl(r:Fq hs cs φ):Fq hs cs (([]:List (List DV))=[]∧φ):=⟨rfl,r.p⟩
theorem Fr{α:Type}(a:α)(r:Fq hs cs φ):Fq hs cs (a=a∧φ):=⟨rfl,r.p⟩
theorem Fo(p:Prop)(r:Fq hs cs φ)(h:p:=by first | (dsimp+zetaDelta only;omega) | omega | (simp only[List.length_cons,List.length_nil];omega)):Fq hs cs (p∧φ):=⟨h,r.p⟩
theorem Fb(p:Prop)(r:Fq hs cs φ)(h:p:=by(simp only[bs];first | (dsimp+zetaDelta only;omega) | omega | (simp only[List.length_cons,List.length_nil];omega))):Fq hs cs (p∧φ):=⟨h,r.p⟩
theorem Ft(n:Nat){b:Bool}(h:b=true)(r:Fq hs cs φ):Fq ((n,[.br true])::hs) cs (b=true∧true=true∧φ):=⟨h,rfl,r.p⟩
theorem Ff(n:Nat){b:Bool}(h:b=false)(r:Fq hs cs φ):Fq ((n,[.br false])::hs) cs (b=false∧false=false∧φ):=⟨h,rfl,r.p⟩
theorem Ftb(n:Nat)(b:Bool)(r:Fq hs cs φ)(h:b=true:=by(simp only[bs];first | (dsimp+zetaDelta only;omega) | omega | (simp only[List.length_cons,List.length_nil];omega))):Fq ((n,[.br true])::hs) cs (b=true∧true=true∧φ):=⟨h,rfl,r.p⟩
theorem Ffb(n:Nat)(b:Bool)(r:Fq hs cs φ)(h:b=false:=by(simp only[bs];first | (dsimp+zetaDelta only;omega) | omega | (simp only[List.length_cons,List.length_nil];omega))):Fq ((n,[.br false])::hs) cs (b=false∧false=false∧φ):=⟨h,rfl,r.p⟩
theorem Fg(n:Nat){a b:Int}(h:a=b)(r:Fq hs cs φ):Fq ((n,[.int b])::hs) cs (a=b∧φ):=⟨h,r.p⟩
theorem Fgo(n:Nat)(a b:Int)(r:Fq hs cs φ)(h:a=b:=by first | (dsimp+zetaDelta only;omega) | omega | (simp only[List.length_cons,List.length_nil];omega)):Fq ((n,[.int b])::hs) cs (a=b∧φ):=⟨h,r.p⟩
theorem Fi(n:Nat)(x:Int)(r:Fq hs cs φ)(h1:-9223372036854775808≤x:=by first | (dsimp+zetaDelta only;omega) | omega | (simp only[List.length_cons,List.length_nil];omega))(h2:x≤9223372036854775807:=by first | (dsimp+zetaDelta only;omega) | omega | (simp only[List.length_cons,List.length_nil];omega)):Fq ((n,[.int x])::hs) cs (IntKind.i64.wrap x=x∧φ):=⟨wrapI' h1 h2,r.p⟩
theorem Fv(n:Nat)(x:Int)(r:Fq hs cs φ)(h1:0≤x:=by first | (dsimp+zetaDelta only;omega) | omega | (simp only[List.length_cons,List.length_nil];omega))(h2:x≤18446744073709551615:=by first | (dsimp+zetaDelta only;omega) | omega | (simp only[List.length_cons,List.length_nil];omega)):Fq ((n,[.int x])::hs) cs (IntKind.u64.wrap x=x∧φ):=⟨wrapU' h1 h2,r.p⟩
theorem Fl(n:Nat){α:Type}(f:α→List DV)(l:List α)(r:Fq hs cs φ):Fq ((n,[.int (l.length:Int)])::hs) cs (((l.map f).length:Int)=(l.length:Int)∧φ):=⟨by simp only[List.length_map],r.p⟩
theorem Fek(n:Nat){α:Type}[Inhabited α](f:α→List DV)(l:List α)(i:Int)(k:Nat)(r:Fq hs cs φ)(h0:0≤i:=by first | (dsimp+zetaDelta only;omega) | omega | (simp only[List.length_cons,List.length_nil];omega))(e:i.toNat=k:=by first | (dsimp+zetaDelta only;omega) | omega | (simp only[List.length_cons,List.length_nil];omega))(h:k<l.length:=by first | (dsimp+zetaDelta only;omega) | omega | (simp only[List.length_cons,List.length_nil];omega)):Fq ((n,[.el (f (l.getD k default))])::hs) cs ((0≤i∧(l.map f)[i.toNat]? = some (f (l.getD k default)))∧φ):=⟨elI h0 e h,r.p⟩
theorem Fe(n:Nat){α:Type}[Inhabited α](f:α→List DV)(l:List α)(i:Int)(r:Fq hs cs φ)(h0:0≤i:=by first | (dsimp+zetaDelta only;omega) | omega | (simp only[List.length_cons,List.length_nil];omega))(h:i.toNat<l.length:=by first | (dsimp+zetaDelta only;omega) | omega | (simp only[List.length_cons,List.length_nil];omega)):Fq ((n,[.el (f (l.getD i.toNat default))])::hs) cs ((0≤i∧(l.map f)[i.toNat]? = some (f (l.getD i.toNat default)))∧φ):=⟨elI h0 rfl h,r.p⟩
theorem Fs(n:Nat)(a:List (List DV))(r:Fq hs cs φ):Fq ((n,[.els a])::hs) cs (a=a∧φ):=⟨rfl,r.p⟩
theorem Fx(n:Nat)(i:Nat)(r:Fq hs cs φ)(h:(i:Int)+1≤9223372036854775807:=by first | (dsimp+zetaDelta only;omega) | omega | (simp only[List.length_cons,List.length_nil];omega)):Fq ((n,[.int ((i+1:Nat):Int)])::hs) cs (IntKind.i64.wrap ((i:Int)+1)=((i+1:Nat):Int)∧φ):=⟨wrapI2 rfl oq oq,r.p⟩
theorem Fw(n:Nat)(a b:Int)(r:Fq hs cs φ)(h:a=b:=by first | (dsimp+zetaDelta only;omega) | omega | (simp only[List.length_cons,List.length_nil];omega))(h1:-9223372036854775808≤b:=by first | (dsimp+zetaDelta only;omega) | omega | (simp only[List.length_cons,List.length_nil];omega))(h2:b≤9223372036854775807:=by first | (dsimp+zetaDelta only;omega) | omega | (simp only[List.length_cons,List.length_nil];omega)):Fq ((n,[.int b])::hs) cs (IntKind.i64.wrap a=b∧φ):=⟨by rw[h];exact wrapI' h1 h2,r.p⟩
theorem FiG(n:Nat)(c:Bool)(x:Int)(r:Fq hs cs φ)(h:c=true→-9223372036854775808≤x∧x≤9223372036854775807:=by intro hg;(try simp only[bs]at hg);first | (dsimp+zetaDelta only at hg ⊢;omega) | omega):Fq ((n,[.int x])::hs) cs ((c=true→IntKind.i64.wrap x=x)∧φ):=⟨fun q=>wrapI' (h q).1 (h q).2,r.p⟩
theorem FvG(n:Nat)(c:Bool)(x:Int)(r:Fq hs cs φ)(h:c=true→0≤x∧x≤18446744073709551615:=by intro hg;(try simp only[bs]at hg);first | (dsimp+zetaDelta only at hg ⊢;omega) | omega):Fq ((n,[.int x])::hs) cs ((c=true→IntKind.u64.wrap x=x)∧φ):=⟨fun q=>wrapU' (h q).1 (h q).2,r.p⟩
theorem FlG(n:Nat)(c:Bool){α:Type}(f:α→List DV)(l:List α)(r:Fq hs cs φ):Fq ((n,[.int (l.length:Int)])::hs) cs ((c=true→((l.map f).length:Int)=(l.length:Int))∧φ):=⟨fun _=>by simp only[List.length_map],r.p⟩
theorem FeG(n:Nat)(c:Bool){α:Type}[Inhabited α](f:α→List DV)(l:List α)(i:Int)(k:Nat)(r:Fq hs cs φ)(h:c=true→0≤i∧i.toNat=k∧k<l.length:=by intro hg;(try simp only[bs]at hg);first | (dsimp+zetaDelta only at hg ⊢;omega) | omega):Fq ((n,[.el (f (l.getD k default))])::hs) cs ((c=true→0≤i∧(l.map f)[i.toNat]? = some (f (l.getD k default)))∧φ):=⟨fun q=>elI (h q).1 (h q).2.1 (h q).2.2,r.p⟩
theorem el2{α:Type}[Inhabited α](f:α→List DV){l:List α}{i:Int}{k:Nat}(h:i.toNat=k∧k<l.length):(l.map f)[i.toNat]? = some (f (l.getD k default)):=by
 rw[h.1,List.getElem?_map,List.getD_eq_getElem?_getD,List.getElem?_eq_getElem h.2];rfl
theorem Fm0{α:Type}[Inhabited α](f:α→List DV)(l:List α)(i:Int)(k:Nat)(r:Fq hs cs φ)(h:0≤i∧i.toNat=k∧k<l.length:=by first | (dsimp+zetaDelta only;omega) | omega | (simp only[List.length_cons,List.length_nil];omega)):Fq hs cs ((0≤i∧i.toNat<(l.map f).length)∧(l.map f)[i.toNat]? = some (f (l.getD k default))∧φ):=⟨⟨h.1,by rw[List.length_map];omega⟩,el2 f h.2,r.p⟩
theorem Fm(n:Nat){α:Type}[Inhabited α](f:α→List DV)(l:List α)(i:Int)(k:Nat)(r:Fq hs cs φ)(h:0≤i∧i.toNat=k∧k<l.length:=by first | (dsimp+zetaDelta only;omega) | omega | (simp only[List.length_cons,List.length_nil];omega)):Fq ((n,[.el (f (l.getD k default))])::hs) cs ((0≤i∧i.toNat<(l.map f).length)∧(l.map f)[i.toNat]? = some (f (l.getD k default))∧φ):=⟨⟨h.1,by rw[List.length_map];omega⟩,el2 f h.2,r.p⟩
theorem FmG(n:Nat)(c:Bool){α:Type}[Inhabited α](f:α→List DV)(l:List α)(i:Int)(k:Nat)(r:Fq hs cs φ)(h:c=true→0≤i∧i.toNat=k∧k<l.length:=by intro hg;(try simp only[bs]at hg);first | (dsimp+zetaDelta only at hg ⊢;omega) | omega):Fq ((n,[.el (f (l.getD k default))])::hs) cs ((c=true→0≤i∧i.toNat<(l.map f).length)∧(c=true→(l.map f)[i.toNat]? = some (f (l.getD k default)))∧φ):=⟨fun q=>⟨(h q).1,by rw[List.length_map];have:=h q;omega⟩,fun q=>el2 f (h q).2,r.p⟩
theorem FS(n:Nat){α:Type}(f:α→List DV)(l:List α)(i:Nat)(p:α)(e:List DV)(r:Fq hs cs φ):Fq ((n,[.el e,.els ((l.set i p).map f)])::hs) cs ((l.map f).set i (f p)=(l.set i p).map f∧φ):=⟨by rw[List.map_set],r.p⟩
theorem FcG(n:Nat)(c:Bool){P:Program}{f:Nat}{args:List AV}{fr:Bool}{res:AV}{news:List Blk}(h:c=true→GSpec P f args fr res news)(r:Fq hs cs φ):Fq ((n,[.call fr res news])::hs) cs ((c=true→GSpec P f args fr res news)∧φ):=⟨h,r.p⟩
theorem gF{P:Program}{f:Nat}{fn:Func}{args:List AV}{fr:Bool}{res:AV}{news:List Blk}(keep:List Nat)(hf:P.funcs[f]? = some fn)(fl:List Bool)(h:Fq hs cs φ)
  (h1:oblF fl (runF P hs cs keep fn args fr res news)=φ:=by kernel_rfl) (h2:lefE fl (runF P hs cs keep fn args fr res news)=rigE fl (runF P hs cs keep fn args fr res news):=by kernel_rfl) (hk:keep.Nodup:=by decide):GSpec P f args fr res news :=
 gspec_ofE hs cs keep hk hf fl (oblF_E (Eq.mpr h1 h.p)) rfl h2
theorem sF{P:Program}(ren:List (Nat×Nat))(fl:List Bool){c:Code}{s:St}{e:Ex}{t:Tg}(h:Fq hs cs φ)
  (h1:oblF fl (runToR P hs cs ren c s t)=φ:=by kernel_rfl) (h2:lefE fl (runToR P hs cs ren c s t)=rigE fl (runToR P hs cs ren c s t):=by kernel_rfl) (h3:exO (runToR P hs cs ren c s t)=some e:=by kernel_rfl):CSpec P c s e t.st :=
 stretchE hs cs ren fl (oblF_E (Eq.mpr h1 h.p)) rfl h2 h3
end
abbrev fO(n:Nat):List Bool:=List.replicate n false++[true]
abbrev fP(n:Nat):List Bool:=List.replicate n false++[true,true]
section
variable {hs:List (Nat×List Hint)} {cs:List (Nat×Tg×Ex×Tg)} {φ:Prop}
theorem Fts(n:Nat)(b:Bool)(r:Fq hs cs φ)(h:b=true:=by simp only[bs, *,true_or,or_true,true_and,and_true,not_true_eq_false,not_false_eq_true,Bool.true_eq_false,Bool.false_eq_true]):Fq ((n,[.br true])::hs) cs (b=true∧true=true∧φ):=⟨h,rfl,r.p⟩
theorem Ffs(n:Nat)(b:Bool)(r:Fq hs cs φ)(h:b=false:=by simp only[bs, *,true_or,or_true,true_and,and_true,not_true_eq_false,not_false_eq_true,Bool.true_eq_false,Bool.false_eq_true]):Fq ((n,[.br false])::hs) cs (b=false∧false=false∧φ):=⟨h,rfl,r.p⟩
theorem Fbs(p:Prop)(r:Fq hs cs φ)(h:p:=by simp only[bs, *,true_or,or_true,true_and,and_true,not_true_eq_false,not_false_eq_true,Bool.true_eq_false,Bool.false_eq_true]):Fq hs cs (p∧φ):=⟨h,r.p⟩
theorem FAx(n m:Nat){α:Type}(f:α→List DV)(l:List α)(h:(List.map f []).length+(List.map f l).length≤2^30)(r:Fq hs cs φ):Fq ((n,[.els (List.map f [])])::(m,[.els (List.map f l)])::hs) cs (List.map f []=List.map f []∧((List.map f []).length+(List.map f l).length≤2^30)∧List.map f l=List.map f l∧φ):=⟨rfl,h,rfl,r.p⟩
theorem FA(n m:Nat){α:Type}(f:α→List DV)(l:List α)(r:Fq hs cs φ)(h:l.length≤1073741824:=by first | omega | (simp[*];omega)):Fq ((n,[.els (List.map f [])])::(m,[.els (List.map f l)])::hs) cs (List.map f []=List.map f []∧((List.map f []).length+(List.map f l).length≤2^30)∧List.map f l=List.map f l∧φ) :=
 FAx n m f l (by rw[List.length_map,List.length_map];simpa using h) r
theorem FBx(m k:Nat){α:Type}(f:α→List DV)(l:List α)(x:α)(h:(List.map f l).length+(List.map f [x]).length≤2^30)(r:Fq hs cs φ):Fq ((m,[.els (List.map f [x])])::(k,[.els (List.map f (l++[x]))])::hs) cs (List.map f [x]=List.map f [x]∧((List.map f l).length+(List.map f [x]).length≤2^30)∧List.map f l++List.map f [x]=List.map f (l++[x])∧φ):=⟨rfl,h,List.map_append.symm,r.p⟩
theorem FB(m k:Nat){α:Type}(f:α→List DV)(l:List α)(x:α)(r:Fq hs cs φ)(h:l.length<1073741824:=by first | omega | (simp[*];omega)):Fq ((m,[.els (List.map f [x])])::(k,[.els (List.map f (l++[x]))])::hs) cs (List.map f [x]=List.map f [x]∧((List.map f l).length+(List.map f [x]).length≤2^30)∧List.map f l++List.map f [x]=List.map f (l++[x])∧φ) :=
 FBx m k f l x (by rw[List.length_map,List.length_map];simp only[List.length_cons,List.length_nil];omega) r
theorem FM(a b:Nat){α:Type}(f:α→List DV)(l:List α)(i:Nat)(r:Fq hs cs φ)(h:i<l.length:=by first | (dsimp+zetaDelta only;omega) | omega | (simp only[List.length_cons,List.length_nil];omega)):Fq ((a,[.int (l.length:Int)])::(b,[.br true])::hs) cs (((l.map f).length:Int)=(l.length:Int)∧decide ((i:Int)<(l.length:Int))=true∧true=true∧φ):=⟨by rw[List.length_map],decide_eq_true oq,rfl,r.p⟩
theorem FN(a b c:Nat){α:Type}[Inhabited α](f:α→List DV)(l:List α)(i:Nat)(r:Fq hs cs φ)(h:i<l.length:=by first | (dsimp+zetaDelta only;omega) | omega | (simp only[List.length_cons,List.length_nil];omega)):Fq ((a,[.int (l.length:Int)])::(b,[.br true])::(c,[.el (f (l.getD i default))])::hs) cs (((l.map f).length:Int)=(l.length:Int)∧decide ((i:Int)<(l.length:Int))=true∧true=true∧(0≤(i:Int)∧(l.map f)[(i:Int).toNat]? = some (f (l.getD i default)))∧φ):=⟨by rw[List.length_map],decide_eq_true oq,rfl,elI oq oq h,r.p⟩
theorem FO(a b:Nat){α:Type}(f:α→List DV)(l:List α)(r:Fq hs cs φ):Fq ((a,[.int (l.length:Int)])::(b,[.br false])::hs) cs (((l.map f).length:Int)=(l.length:Int)∧decide ((l.length:Int)<(l.length:Int))=false∧false=false∧φ):=⟨by rw[List.length_map],decide_eq_false oq,rfl,r.p⟩
theorem Fm0q{α:Type}[Inhabited α](f:α→List DV)(l:List α)(i:Int)(r:Fq hs cs φ)(h:0≤i∧i.toNat<l.length:=by first | (dsimp+zetaDelta only;omega) | omega | (simp only[List.length_cons,List.length_nil];omega)):Fq hs cs ((0≤i∧i.toNat<(l.map f).length)∧(l.map f)[i.toNat]? = some (f (l.getD i.toNat default))∧φ):=Fm0 f l i i.toNat r ⟨h.1,rfl,h.2⟩
theorem Fmq(n:Nat){α:Type}[Inhabited α](f:α→List DV)(l:List α)(i:Int)(r:Fq hs cs φ)(h:0≤i∧i.toNat<l.length:=by first | (dsimp+zetaDelta only;omega) | omega | (simp only[List.length_cons,List.length_nil];omega)):Fq ((n,[.el (f (l.getD i.toNat default))])::hs) cs ((0≤i∧i.toNat<(l.map f).length)∧(l.map f)[i.toNat]? = some (f (l.getD i.toNat default))∧φ):=Fm n f l i i.toNat r ⟨h.1,rfl,h.2⟩
theorem FmGq(n:Nat)(c:Bool){α:Type}[Inhabited α](f:α→List DV)(l:List α)(i:Int)(r:Fq hs cs φ)(h:c=true→0≤i∧i.toNat<l.length:=by intro hg;(try simp only[bs]at hg);first | (dsimp+zetaDelta only at hg ⊢;omega) | omega):Fq ((n,[.el (f (l.getD i.toNat default))])::hs) cs ((c=true→0≤i∧i.toNat<(l.map f).length)∧(c=true→(l.map f)[i.toNat]? = some (f (l.getD i.toNat default)))∧φ):=FmG n c f l i i.toNat r (fun q=>⟨(h q).1,rfl,(h q).2⟩)
theorem FeGq(n:Nat)(c:Bool){α:Type}[Inhabited α](f:α→List DV)(l:List α)(i:Int)(r:Fq hs cs φ)(h:c=true→0≤i∧i.toNat<l.length:=by intro hg;(try simp only[bs]at hg);first | (dsimp+zetaDelta only at hg ⊢;omega) | omega):Fq ((n,[.el (f (l.getD i.toNat default))])::hs) cs ((c=true→0≤i∧(l.map f)[i.toNat]? = some (f (l.getD i.toNat default)))∧φ):=FeG n c f l i i.toNat r (fun q=>⟨(h q).1,rfl,(h q).2⟩)
theorem Fe2(c:Bool){α:Type}[Inhabited α](f:α→List DV)(l:List α)(i:Int)(k:Nat)(r:Fq hs cs φ)(h:c=true→0≤i∧i.toNat=k∧k<l.length:=by intro hg;(try simp only[bs]at hg);first | (dsimp+zetaDelta only at hg ⊢;omega) | omega):Fq hs cs ((c=true→0≤i∧(l.map f)[i.toNat]? = some (f (l.getD k default)))∧φ):=⟨(FeG 0 c f l i k r h).p.1,r.p⟩
theorem Fe2q(c:Bool){α:Type}[Inhabited α](f:α→List DV)(l:List α)(i:Int)(r:Fq hs cs φ)(h:c=true→0≤i∧i.toNat<l.length:=by intro hg;(try simp only[bs]at hg);first | (dsimp+zetaDelta only at hg ⊢;omega) | omega):Fq hs cs ((c=true→0≤i∧(l.map f)[i.toNat]? = some (f (l.getD i.toNat default)))∧φ):=⟨(FeGq 0 c f l i r h).p.1,r.p⟩
theorem Fm2(c:Bool){α:Type}[Inhabited α](f:α→List DV)(l:List α)(i:Int)(k:Nat)(r:Fq hs cs φ)(h:c=true→0≤i∧i.toNat=k∧k<l.length:=by intro hg;(try simp only[bs]at hg);first | (dsimp+zetaDelta only at hg ⊢;omega) | omega):Fq hs cs ((c=true→0≤i∧i.toNat<(l.map f).length)∧(c=true→(l.map f)[i.toNat]? = some (f (l.getD k default)))∧φ):=(⟨(FmG 0 c f l i k r h).p⟩:Fq hs cs _)
theorem Fm2q(c:Bool){α:Type}[Inhabited α](f:α→List DV)(l:List α)(i:Int)(r:Fq hs cs φ)(h:c=true→0≤i∧i.toNat<l.length:=by intro hg;(try simp only[bs]at hg);first | (dsimp+zetaDelta only at hg ⊢;omega) | omega):Fq hs cs ((c=true→0≤i∧i.toNat<(l.map f).length)∧(c=true→(l.map f)[i.toNat]? = some (f (l.getD i.toNat default)))∧φ):=(⟨(FmGq 0 c f l i r h).p⟩:Fq hs cs _)
end
section
variable {hs:List (Nat×List Hint)} {cs:List (Nat×Tg×Ex×Tg)} {φ0:Prop}
theorem Fbr(n:Nat)(ls:List Nat){P:Program}{f:Nat}{args:List AV}{pre:List Blk}{res:AV}{post:List Blk}(h:BorSpec P f args pre res post)(r:Fq hs cs φ0):Fq ((n,[.bor ls res post])::hs) cs (BorSpec P f args pre res post∧φ0):=⟨h,r.p⟩
theorem Fbq(n:Nat)(ls:List Nat){P:Program}{f:Nat}{args:List AV}{pre:List Blk}{res:AV}{post:List Blk}(h:BorSpec P f args pre res post)(r:Fq hs cs φ0):Fq ((n,[.bor ls res []])::hs) cs (BorSpec P f args pre res post∧φ0):=⟨h,r.p⟩
theorem Fp(n:Nat){P:Program}{f:Nat}{args:List AV}{pre:List Blk}{res:AV}{post:List Blk}(h:BorSpec P f args pre res post)(r:Fq hs cs φ0):Fq ((n,[.bor [0] res post])::hs) cs (BorSpec P f args pre res post∧φ0):=⟨h,r.p⟩
end
theorem sj{p:Prop}(h:p:=by((repeat' split)<;>first | rfl | omega | (exfalso;omega) | simp_all)):p:=h
theorem ms{p:Prop}(h:p:=by simp[List.map_take,List.map_drop,List.map_set,List.map_append,wdv,idv]):p:=h
end Go.Sx
