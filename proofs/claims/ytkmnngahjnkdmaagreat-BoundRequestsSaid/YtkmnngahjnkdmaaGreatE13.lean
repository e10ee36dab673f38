/-
 The statement BoundRequests: part 13.
 Conditions: none.
-/
import Derived.Defers
import Derived.Test.YtkmnngahjnkdmaaGreatE12
set_option maxRecDepth 100000
set_option maxHeartbeats 2000000
set_option linter.all false
namespace Go.Sx
def CSpec.seq{P c d s t u e}(h:CSpec P c s .nrm t)(k:CSpec P d t e u):CSpec P (.seq c d) s e u:=by intro f b g a w S;refine wp_seq (wp_mono (h f b g a w S) ?_);rintro e' j l ⟨rfl,i⟩;exact k f b g j l i
def Zjv{P:Program}{f:Nat}{fn:Func}{c:Code}{args l:List AV}{fr}{res x:AV}{ns:List Z3}{p qq:List Prop}{st}{kp:List Nat}(b:kp.Nodup)(s:P.funcs[f]?=some fn)(r:fn.body=some c)(h:CSpec P c ⟨args++List.replicate (fn.ntmps-args.length) .any,λ_=>none,1⟩ .ret st)(hl:Ru P st.tmps st.H fn.results.toList=some l)(t:Td kp st.H fr (SF l)=some (x,p))(g:B9 p)(d:B9 (Ij x res).2)(n:(Ij x res).1=res)(k:A8 kp st.H fr=some (ns,qq))(i:B9 qq):GSpec P f args fr res ns:=by intro w Im vs j m a;refine calls_of_wp s r (wp_mono (h _ _ _ _ _ (Pv j m a)) ?_);rintro e a' w' ⟨rfl,S⟩;obtain⟨v,o,q⟩:=Z0J b S hl t g d n k i;obtain⟨_,_,_,T⟩:=S;exact⟨T.defers,v,o,v,rfl,q⟩
def Sys.defer{Ow Im0 w0 w tmps H clk a}(S:Sys Ow Im0 w0 tmps H clk a w)(D:List Deferred):Sys ⟨Ow.p,D⟩ Im0 w0 tmps H clk {a with defers:=D} w:=by obtain⟨ρ,b,I,T⟩:=S;exact⟨ρ,b,⟨I.kept,I.inj,I.notIm,I.bnd,I.own,I.imb,I.im0,I.blk,I.fresh,I.one⟩,⟨T.size,T.tmp,rfl⟩⟩
def Rs{P}{i:Nat}{l}{ops:Array Oper}{Q}{o:Oper}{a w}(c:ops[i]?=some o)(b:o.guard=none)(h:o.wp P a w (wpOps P ops Q l) Q):wpOps P ops Q (i::l) a w:=by rw[wpOps];simp only[c];rw[if_pos (by simp[Region.wanted,b])];exact .inl h
def Zew:Code->Code|.seq _ y=>y|c=>c
def Zau:Code->Code|.seq x _=>x|c=>c
def Z9S:Nat->Code->Code|0,c=>c|n+1,c=>Z9S n (Zew c)
def GE(fn:Func)(n:Nat):Code:=match fn.body with|some c=>Z9S n c|none=>.skip
def Cv(fn:Func)(n:Nat):Code:=Zau (GE fn n)
end Go.Sx
