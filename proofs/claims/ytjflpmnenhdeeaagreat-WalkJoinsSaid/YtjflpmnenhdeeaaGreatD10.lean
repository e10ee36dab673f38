/-
 The statement WalkJoins: part 10.
 Conditions: none.
-/
import Derived.Test.YtjflpmnenhdeeaaGreatD9
set_option maxRecDepth 100000
set_option maxHeartbeats 2000000
set_option linter.all false
namespace Go.Proofs.YtjflpmnenhdeeaaGreat
open Go.Sx
structure Tape where
 l:List Int
 at':Int
 deriving Inhabited
def Tape.b(t:Tape):Blk:=.box 37 [.d (.sl 1 (t.l.map idv)),int t.at']
def TOk(t:Tape):Prop:=t.l.length≤140737488355328∧0≤t.at'∧t.at'≤1048576
def Tape.next(t:Tape)(n:Int):Int:=if n<1 then 0 else(if t.at'<t.l.length then t.l.getD t.at'.toNat default else t.at'*7+3)%n
def Tape.step(t:Tape)(n:Int):Tape:=if n<1 then t else⟨t.l,t.at'+1⟩
theorem Z6s(v:Int){n:Int}(h:1≤n):-n<v.tmod n∧v.tmod n<n:=by
 by_cases hv:0≤v
 ·rw[Int.tmod_eq_emod_of_nonneg hv]
  have:=Int.emod_nonneg v (b:=n) (by omega)
  have:=Int.emod_lt_of_pos v (b:=n) (by omega)
  omega
 ·have e:v.tmod n=-((-v).tmod n):=by rw[Int.neg_tmod];omega
  rw[e,Int.tmod_eq_emod_of_nonneg (by omega)]
  have:=Int.emod_nonneg (-v) (b:=n) (by omega)
  have:=Int.emod_lt_of_pos (-v) (b:=n) (by omega)
  omega
theorem Zc3(v:Int){n:Int}(h:1≤n):(v.tmod n+n).tmod n=v%n:=by
 have hr:=Z6s v h
 rw[Int.tmod_eq_emod_of_nonneg (by omega),Int.add_emod_right]
 by_cases hv:0≤v
 ·rw[Int.tmod_eq_emod_of_nonneg hv,Int.emod_emod]
 ·have e:v=n*v.tdiv n+v.tmod n:=(Int.mul_tdiv_add_tmod v n).symm
  conv=>rhs;rw[e]
  rw[Int.mul_add_emod_self_left]
theorem Z0x(t:Tape)(n:Int)(ht:TOk t)(hn:n≤1099511627776)(hn0:-1099511627776≤n):LentSpec Tryz.prog 33 [.pt 0 0 0,int n] [t.b] (int (t.next n)) [(t.step n).b]:=by
 unfold TOk at ht
 have h1:=fun h=>Z6s (t.l.getD t.at'.toNat default) (n:=n) h
 have h2:=fun h=>Zc3 (t.l.getD t.at'.toNat default) (n:=n) h
 have h3:1≤n→0≤(t.at'*7+3)%n∧(t.at'*7+3)%n<n:=fun h=>⟨Int.emod_nonneg _ (by omega),Int.emod_lt_of_pos _ (by omega)⟩
 have h4:((t.at'*7+3)%n+n)%n=(t.at'*7+3)%n:=by rw[Int.add_emod_right,Int.emod_emod]
 rcases bb (decide (n<1))with hc0 | hc0<;>have hc0p:=hc0<;>simp only[bs]at hc0p
 ·exact lF Tryz.func33 [true,true] (Ft 7 hc0 (Fa (by simp[Tape.next,Tape.step, *]:0=t.next n) (Fr (37:Int) (Fa (by refine congrArg _ ?_;simp[Tape.next,Tape.step, *]:List.map idv t.l=List.map idv (t.step n).l) (Fa (by simp[Tape.next,Tape.step, *]:t.at'=(t.step n).at') Fz)))))
 ·have Q0 {h_ c_ p_} (r_:Fq h_ c_ p_):=Ff 7 hc0 (Fi 12 (t.at'*7) (Fi 13 (t.at'*(7:Int)+3) (Fl 22 idv t.l r_)))
  rcases bb (decide (t.at'<(↑t.l.length:Int)))with hc1 | hc1<;>have hc1p:=hc1<;>simp only[bs]at hc1p
  ·exact lF Tryz.func33 [true,true] (Q0 (Ft 23 hc1 (Fe 32 idv t.l t.at' (Fi 38 (t.at'+1) (Fo (n≠0) (Fi 45 ((t.l.getD t.at'.toNat default).tmod n+n) (Fg 47 (by exact Int.tmod_eq_emod_of_nonneg (by omega):((t.l.getD t.at'.toNat default).tmod n+n).tmod n=((t.l.getD t.at'.toNat default).tmod n+n)%n) (Fo (n≠0) (Fa (by grind[Tape.next,Tape.step]:((t.l.getD t.at'.toNat default).tmod n+n)%n=t.next n) (Fr (37:Int) (Fa (by refine congrArg _ ?_;simp[Tape.next,Tape.step, *]:List.map idv t.l=List.map idv (t.step n).l) (Fa (by simp[Tape.next,Tape.step, *]:t.at'+1=(t.step n).at') Fz))))))))))))
  ·exact lF Tryz.func33 [true,true] (Q0 (Ff 23 hc1 (Fi 38 (t.at'+1) (Fg 43 (by exact Int.tmod_eq_emod_of_nonneg (by omega):(t.at'*(7:Int)+3).tmod n=(t.at'*(7:Int)+3)%n) (Fo (n≠0) (Fi 45 ((t.at'*(7:Int)+3)%n+n) (Fg 47 (by exact Int.tmod_eq_emod_of_nonneg (by omega):((t.at'*(7:Int)+3)%n+n).tmod n=((t.at'*(7:Int)+3)%n+n)%n) (Fo (n≠0) (Fa (by simp[Tape.next,Tape.step, *]:((t.at'*(7:Int)+3)%n+n)%n=t.next n) (Fr (37:Int) (Fa (by refine congrArg _ ?_;simp[Tape.next,Tape.step, *]:List.map idv t.l=List.map idv (t.step n).l) (Fa (by simp[Tape.next,Tape.step, *]:t.at'+1=(t.step n).at') Fz))))))))))))
theorem Z7i(t:Tape)(ht:TOk t):LentSpec Tryz.prog 30 [.pt 0 0 0] [t.b] (bool (decide ((t.l.length:Int)≤t.at'))) [t.b]:=by
 exact lF Tryz.func30 [] (Fl 11 idv t.l Fz)
def Tape.conf(t:Tape):Conf:=⟨[16,16,20,32].getD (t.next 4).toNat default,[8,12,16,20,24].getD ((t.step 4).next 5).toNat default⟩
theorem Z0G(t:Tape){n:Int}(h:1≤n):0≤t.next n∧t.next n<n:=by
 unfold Tape.next
 rw[if_neg (by omega)]
 exact⟨Int.emod_nonneg _ (by omega),Int.emod_lt_of_pos _ (by omega)⟩
theorem step_ok{t:Tape}(ht:TOk t)(n:Int)(h:t.at'<1048576):TOk (t.step n):=by
 unfold TOk at ht ⊢
 unfold Tape.step
 split
 ·exact ht
 ·simp only;omega
theorem Zjw(t:Tape)(ht:TOk t)(ha:t.at'≤1000000):LentSpec Tryz.prog 62 [.pt 0 0 0] [t.b] (t.conf.av) [((t.step 4).step 5).b]:=by
 have h1:=Z0G t (n:=4) (by decide)
 have h2:=Z0G (t.step 4) (n:=5) (by decide)
 have h3:=step_ok ht 4 (by omega)
 exact lF Tryz.func62 [] (Fh 7 [.el (idv ([16,16,20,32].getD (t.next 4).toNat default))] (Fh 12 [.el (idv ([8,12,16,20,24].getD ((t.step 4).next 5).toNat default))] (Fs 3 (List.map idv [16,16,20,32]) (Fp 5 (@Z0x t (4) ‹_› (by omega) (by omega)) (Fa (by simp[Tape.conf, *]:0≤t.next 4∧(t.next 4).toNat<(List.map idv [16,16,20,32]).length) (Fa (by grind[Tape.conf]:(List.map idv [16,16,20,32])[(t.next 4).toNat]? = some (idv ([16,16,20,32].getD (t.next 4).toNat default))) (Fs 8 (List.map idv [8,12,16,20,24]) (Fp 10 (@Z0x (t.step 4) (5) ‹_› (by omega) (by omega)) (Fa (by simp[Tape.conf, *]:0≤(t.step 4).next 5∧((t.step 4).next 5).toNat<(List.map idv [8,12,16,20,24]).length) (Fa (by grind[Tape.conf]:(List.map idv [8,12,16,20,24])[((t.step 4).next 5).toNat]? = some (idv ([8,12,16,20,24].getD ((t.step 4).next 5).toNat default))) Fz))))))))))
structure WorldM where
 heap:Heap
 strong:List Int
 weak:List Int
 deriving Inhabited
def WorldM.cells(w:WorldM):List AV:=w.heap.cells++[Z02 w.strong,Z02 w.weak]
def WorldM.av(w:WorldM):AV:=.ag w.cells
theorem Z2B(t:Tape):Z07 t.conf=true:=by
 have h1:=Z0G t (n:=4) (by decide)
 have h2:=Z0G (t.step 4) (n:=5) (by decide)
 unfold Tape.conf
 generalize t.next 4=a at h1
 generalize (t.step 4).next 5=b at h2
 have ha:a=0∨a=1∨a=2∨a=3:=by omega
 have hb:b=0∨b=1∨b=2∨b=3∨b=4:=by omega
 rcases ha with rfl | rfl | rfl | rfl<;>rcases hb with rfl | rfl | rfl | rfl | rfl<;>decide
theorem Z3B{t:Tape}(n:Int):t.at'≤(t.step n).at'∧(t.step n).at'≤t.at'+1∧(t.step n).l=t.l:=by
 unfold Tape.step
 split
 ·exact⟨by omega,by omega,rfl⟩
 ·exact⟨by simp only;omega,by simp only;omega,rfl⟩
theorem Z4C{t u:Tape}(ht:TOk t)(hl:u.l=t.l)(h1:t.at'≤u.at')(h2:u.at'≤1048576):TOk u:=by
 unfold TOk at ht ⊢
 rw[hl];omega
def Tape.empty(t:Tape):WorldM:=⟨Z2S t.conf,[],[]⟩
theorem ZbG(t:Tape)(ht:TOk t)(ha:t.at'≤1000000):LentSpec Tryz.prog 29 [.pt 0 0 0] [t.b] (t.empty.av) [((t.step 4).step 5).b]:=by
 have hv:=Z2B t
 exact lF Tryz.func29 [] (Fp 7 (@Zjw t ‹_› ‹_›) (Fc 8 (@ZgY t.conf ‹_›) (Fnl (Fnl Fz))))
def hdr1(t:Tape)(c:Conf):Int:=if(t.step (Z00 c)).next 12=0 then Z00 c+((t.step (Z00 c)).step 12).next c.pw else t.next (Z00 c)
def Z1G(t:Tape)(c:Conf):Tape:=if(t.step (Z00 c)).next 12=0 then((t.step (Z00 c)).step 12).step c.pw else(t.step (Z00 c)).step 12
def Tape.header(t:Tape)(c:Conf):Header:=if(Z1G t c).next 4=0 then⟨2,hdr1 t c,0⟩else if(Z1G t c).next 4=1 then⟨3,hdr1 t c,0⟩else⟨1,min (hdr1 t c) 32,((Z1G t c).step 4).next (2^(min (min (hdr1 t c) 32) 12).toNat)⟩
def Tape.headerT(t:Tape)(c:Conf):Tape:=if(Z1G t c).next 4=0 then(Z1G t c).step 4 else if(Z1G t c).next 4=1 then(Z1G t c).step 4 else((Z1G t c).step 4).step (2^(min (min (hdr1 t c) 32) 12).toNat)
theorem ZkI{n:Int}(h:n≤12):(1:Int)≤2^n.toNat∧(2:Int)^n.toNat≤4096:=by
 have:n.toNat≤12:=by omega
 generalize n.toNat=k at this
 have hk:k∈List.range 13:=List.mem_range.2 (by omega)
 revert k
 decide+kernel
theorem ZjW{n:Int}(h:0≤n):1*2^min (min (min n 32) 12).toNat 64=(2:Int)^(min (min n 32) 12).toNat:=by
 rw[Nat.min_eq_left (by omega),Int.one_mul]
theorem Z5b(t:Tape)(c:Conf)(ht:TOk t)(ha:t.at'≤1000000)(hv:Z07 c=true):LentSpec Tryz.prog 9 [.pt 0 0 0,c.av] [t.b] ((t.header c).av) [(t.headerT c).b]:=by
 have hb:=validB_iff.1 hv
 have hs:=Z2g hv
 have s1:=Z3B (t:=t) (Z00 c)
 have s2:=Z3B (t:=t.step (Z00 c)) 12
 have s3:=Z3B (t:=(t.step (Z00 c)).step 12) c.pw
 have k1:=Z4C ht s1.2.2 (by omega) (by omega)
 have k2:=Z4C k1 s2.2.2 (by omega) (by omega)
 have k3:=Z4C k2 s3.2.2 (by omega) (by omega)
 have n1:=Z0G t (n:=Z00 c) (by omega)
 have n2:=Z0G ((t.step (Z00 c)).step 12) (n:=c.pw) (by omega)
 have h1:0≤hdr1 t c∧hdr1 t c≤80:=by unfold hdr1;split<;>omega
 have s4:=Z3B (t:=((t.step (Z00 c)).step 12).step c.pw) 4
 have s5:=Z3B (t:=(t.step (Z00 c)).step 12) 4
 have k4:=Z4C k3 s4.2.2 (by omega) (by omega)
 have k5:=Z4C k2 s5.2.2 (by omega) (by omega)
 have ei1:=ZjW (n:=Z00 c+((t.step (Z00 c)).step 12).next c.pw) (by omega)
 have ei2:=ZjW (n:=t.next (Z00 c)) (by omega)
 have p1:=ZkI (n:=min (min (Z00 c+((t.step (Z00 c)).step 12).next c.pw) 32) 12) (by omega)
 have p2:=ZkI (n:=min (min (t.next (Z00 c)) 32) 12) (by omega)
 have r1:=Z0G ((((t.step (Z00 c)).step 12).step c.pw).step 4) (n:=2^(min (min (Z00 c+((t.step (Z00 c)).step 12).next c.pw) 32) 12).toNat) (by omega)
 have r2:=Z0G (((t.step (Z00 c)).step 12).step 4) (n:=2^(min (min (t.next (Z00 c)) 32) 12).toNat) (by omega)
 have Q0 {h_ c_ p_} (r_:Fq h_ c_ p_):=Fc 8 (@Z17 c) (Fp 11 (@Z0x t (Z00 c) ‹_› (by omega) (by omega)) (Fp 13 (@Z0x (t.step (Z00 c)) (12) ‹_› (by omega) (by omega)) r_))
 rcases bb ((t.step (Z00 c)).next (12:Int)==0)with hc0 | hc0<;>have hc0p:=hc0<;>simp only[bs]at hc0p
 ·have Q1 {h_ c_ p_} (r_:Fq h_ c_ p_):=Q0 (Ft 14 hc0 (Fp 19 (@Z0x ((t.step (Z00 c)).step 12) c.pw ‹_› (by omega) (by omega)) (Fi 20 (Z00 c+((t.step (Z00 c)).step 12).next c.pw) (Fp 22 (@Z0x (((t.step (Z00 c)).step 12).step c.pw) (4) ‹_› (by omega) (by omega)) r_))))
  rcases bb ((((t.step (Z00 c)).step 12).step c.pw).next (4:Int)==0)with hc1 | hc1<;>have hc1p:=hc1<;>simp only[bs]at hc1p
  ·exact lF Tryz.func9 [true,true] (Fh 23 [.br true] (Q1 (Fa hc1 (Fa (by(simp only[Tape.header,Tape.headerT,hdr1,Z1G];(repeat' split)<;>first | rfl | omega | (exfalso;omega) | simp_all):2=(t.header c).kind) (Fa (by(simp only[Tape.header,Tape.headerT,hdr1,Z1G];(repeat' split)<;>first | rfl | omega | (exfalso;omega) | simp_all):Z00 c+((t.step (Z00 c)).step 12).next c.pw=(t.header c).length) (Fa (by(simp only[Tape.header,Tape.headerT,hdr1,Z1G];(repeat' split)<;>first | rfl | omega | (exfalso;omega) | simp_all):0=(t.header c).map) (Fr (37:Int) (Fa (by refine congrArg _ ?_;(simp only[Tape.header,Tape.headerT,hdr1,Z1G];(repeat' split)<;>first | rfl | omega | (exfalso;omega) | simp_all):List.map idv ((((t.step (Z00 c)).step 12).step c.pw).step 4).l=List.map idv (t.headerT c).l) (Fa (by(simp only[Tape.header,Tape.headerT,hdr1,Z1G];(repeat' split)<;>first | rfl | omega | (exfalso;omega) | simp_all):((((t.step (Z00 c)).step 12).step c.pw).step 4).at'=(t.headerT c).at') Fz)))))))))
  ·rcases bb ((((t.step (Z00 c)).step 12).step c.pw).next (4:Int)==1)with hc2 | hc2<;>have hc2p:=hc2<;>simp only[bs]at hc2p
   ·exact lF Tryz.func9 [true,true] (Fh 23 [.br false] (Fh 27 [.br true] (Q1 (Fa hc1 (Fa hc2 (Fa (by(simp only[Tape.header,Tape.headerT,hdr1,Z1G];(repeat' split)<;>first | rfl | omega | (exfalso;omega) | simp_all):3=(t.header c).kind) (Fa (by(simp only[Tape.header,Tape.headerT,hdr1,Z1G];(repeat' split)<;>first | rfl | omega | (exfalso;omega) | simp_all):Z00 c+((t.step (Z00 c)).step 12).next c.pw=(t.header c).length) (Fa (by(simp only[Tape.header,Tape.headerT,hdr1,Z1G];(repeat' split)<;>first | rfl | omega | (exfalso;omega) | simp_all):0=(t.header c).map) (Fr (37:Int) (Fa (by refine congrArg _ ?_;(simp only[Tape.header,Tape.headerT,hdr1,Z1G];(repeat' split)<;>first | rfl | omega | (exfalso;omega) | simp_all):List.map idv ((((t.step (Z00 c)).step 12).step c.pw).step 4).l=List.map idv (t.headerT c).l) (Fa (by(simp only[Tape.header,Tape.headerT,hdr1,Z1G];(repeat' split)<;>first | rfl | omega | (exfalso;omega) | simp_all):((((t.step (Z00 c)).step 12).step c.pw).step 4).at'=(t.headerT c).at') Fz)))))))))))
   ·exact lF Tryz.func9 [true,true] (Fh 23 [.br false] (Fh 27 [.br false] (Q1 (Fa hc1 (Fa hc2 (Fgo 32 (if 32<Z00 c+((t.step (Z00 c)).step 12).next c.pw then 32 else Z00 c+((t.step (Z00 c)).step 12).next c.pw) (min (Z00 c+((t.step (Z00 c)).step 12).next c.pw) 32) (Fgo 36 (if 12<min (Z00 c+((t.step (Z00 c)).step 12).next c.pw) 32 then 12 else min (Z00 c+((t.step (Z00 c)).step 12).next c.pw) 32) (min (min (Z00 c+((t.step (Z00 c)).step 12).next c.pw) 32) 12) (Fv 37 (min (min (Z00 c+((t.step (Z00 c)).step 12).next c.pw) 32) 12) (Fg 38 (by rw[wrapI' (by omega) (by omega)];omega:IntKind.i64.wrap ((1:Int)*2^min (min (min (Z00 c+((t.step (Z00 c)).step 12).next c.pw) 32) 12).toNat 64)=2^(min (min (Z00 c+((t.step (Z00 c)).step 12).next c.pw) 32) 12).toNat) (Fo (0≤min (min (Z00 c+((t.step (Z00 c)).step 12).next c.pw) 32) 12) (Fp 39 (@Z0x ((((t.step (Z00 c)).step 12).step c.pw).step 4) (2^(min (min (Z00 c+((t.step (Z00 c)).step 12).next c.pw) 32) 12).toNat) ‹_› (by omega) (by omega)) (Fg 40 (by exact ZaN (by omega) (by omega):IntKind.u32.wrap (((((t.step (Z00 c)).step 12).step c.pw).step 4).next (2^(min (min (Z00 c+((t.step (Z00 c)).step 12).next c.pw) 32) 12).toNat))=((((t.step (Z00 c)).step 12).step c.pw).step 4).next (2^(min (min (Z00 c+((t.step (Z00 c)).step 12).next c.pw) 32) 12).toNat)) (Fa (by(simp only[Tape.header,Tape.headerT,hdr1,Z1G];(repeat' split)<;>first | rfl | omega | (exfalso;omega) | simp_all):1=(t.header c).kind) (Fa (by(simp only[Tape.header,Tape.headerT,hdr1,Z1G];(repeat' split)<;>first | rfl | omega | (exfalso;omega) | simp_all):min (Z00 c+((t.step (Z00 c)).step 12).next c.pw) 32=(t.header c).length) (Fa (by(simp only[Tape.header,Tape.headerT,hdr1,Z1G];(repeat' split)<;>first | rfl | omega | (exfalso;omega) | simp_all):((((t.step (Z00 c)).step 12).step c.pw).step 4).next (2^(min (min (Z00 c+((t.step (Z00 c)).step 12).next c.pw) 32) 12).toNat)=(t.header c).map) (Fr (37:Int) (Fa (by refine congrArg _ ?_;(simp only[Tape.header,Tape.headerT,hdr1,Z1G];(repeat' split)<;>first | rfl | omega | (exfalso;omega) | simp_all):List.map idv (((((t.step (Z00 c)).step 12).step c.pw).step 4).step (2^(min (min (Z00 c+((t.step (Z00 c)).step 12).next c.pw) 32) 12).toNat)).l=List.map idv (t.headerT c).l) (Fa (by(simp only[Tape.header,Tape.headerT,hdr1,Z1G];(repeat' split)<;>first | rfl | omega | (exfalso;omega) | simp_all):(((((t.step (Z00 c)).step 12).step c.pw).step 4).step (2^(min (min (Z00 c+((t.step (Z00 c)).step 12).next c.pw) 32) 12).toNat)).at'=(t.headerT c).at') Fz))))))))))))))))))
 ·have Q2 {h_ c_ p_} (r_:Fq h_ c_ p_):=Q0 (Ff 14 hc0 (Fp 22 (@Z0x ((t.step (Z00 c)).step 12) (4) ‹_› (by omega) (by omega)) r_))
  rcases bb (((t.step (Z00 c)).step 12).next (4:Int)==0)with hc3 | hc3<;>have hc3p:=hc3<;>simp only[bs]at hc3p
  ·exact lF Tryz.func9 [true,true] (Fh 23 [.br true] (Q2 (Fa hc3 (Fa (by(simp only[Tape.header,Tape.headerT,hdr1,Z1G];(repeat' split)<;>first | rfl | omega | (exfalso;omega) | simp_all):2=(t.header c).kind) (Fa (by(simp only[Tape.header,Tape.headerT,hdr1,Z1G];(repeat' split)<;>first | rfl | omega | (exfalso;omega) | simp_all):t.next (Z00 c)=(t.header c).length) (Fa (by(simp only[Tape.header,Tape.headerT,hdr1,Z1G];(repeat' split)<;>first | rfl | omega | (exfalso;omega) | simp_all):0=(t.header c).map) (Fr (37:Int) (Fa (by refine congrArg _ ?_;(simp only[Tape.header,Tape.headerT,hdr1,Z1G];(repeat' split)<;>first | rfl | omega | (exfalso;omega) | simp_all):List.map idv (((t.step (Z00 c)).step 12).step 4).l=List.map idv (t.headerT c).l) (Fa (by(simp only[Tape.header,Tape.headerT,hdr1,Z1G];(repeat' split)<;>first | rfl | omega | (exfalso;omega) | simp_all):(((t.step (Z00 c)).step 12).step 4).at'=(t.headerT c).at') Fz)))))))))
  ·rcases bb (((t.step (Z00 c)).step 12).next (4:Int)==1)with hc4 | hc4<;>have hc4p:=hc4<;>simp only[bs]at hc4p
   ·exact lF Tryz.func9 [true,true] (Fh 23 [.br false] (Fh 27 [.br true] (Q2 (Fa hc3 (Fa hc4 (Fa (by(simp only[Tape.header,Tape.headerT,hdr1,Z1G];(repeat' split)<;>first | rfl | omega | (exfalso;omega) | simp_all):3=(t.header c).kind) (Fa (by(simp only[Tape.header,Tape.headerT,hdr1,Z1G];(repeat' split)<;>first | rfl | omega | (exfalso;omega) | simp_all):t.next (Z00 c)=(t.header c).length) (Fa (by(simp only[Tape.header,Tape.headerT,hdr1,Z1G];(repeat' split)<;>first | rfl | omega | (exfalso;omega) | simp_all):0=(t.header c).map) (Fr (37:Int) (Fa (by refine congrArg _ ?_;(simp only[Tape.header,Tape.headerT,hdr1,Z1G];(repeat' split)<;>first | rfl | omega | (exfalso;omega) | simp_all):List.map idv (((t.step (Z00 c)).step 12).step 4).l=List.map idv (t.headerT c).l) (Fa (by(simp only[Tape.header,Tape.headerT,hdr1,Z1G];(repeat' split)<;>first | rfl | omega | (exfalso;omega) | simp_all):(((t.step (Z00 c)).step 12).step 4).at'=(t.headerT c).at') Fz)))))))))))
   ·exact lF Tryz.func9 [true,true] (Fh 23 [.br false] (Fh 27 [.br false] (Q2 (Fa hc3 (Fa hc4 (Fgo 32 (if 32<t.next (Z00 c)then 32 else t.next (Z00 c)) (min (t.next (Z00 c)) 32) (Fgo 36 (if 12<min (t.next (Z00 c)) 32 then 12 else min (t.next (Z00 c)) 32) (min (min (t.next (Z00 c)) 32) 12) (Fv 37 (min (min (t.next (Z00 c)) 32) 12) (Fg 38 (by rw[wrapI' (by omega) (by omega)];omega:IntKind.i64.wrap ((1:Int)*2^min (min (min (t.next (Z00 c)) 32) 12).toNat 64)=2^(min (min (t.next (Z00 c)) 32) 12).toNat) (Fo (0≤min (min (t.next (Z00 c)) 32) 12) (Fp 39 (@Z0x (((t.step (Z00 c)).step 12).step 4) (2^(min (min (t.next (Z00 c)) 32) 12).toNat) ‹_› (by omega) (by omega)) (Fg 40 (by exact ZaN (by omega) (by omega):IntKind.u32.wrap ((((t.step (Z00 c)).step 12).step 4).next (2^(min (min (t.next (Z00 c)) 32) 12).toNat))=(((t.step (Z00 c)).step 12).step 4).next (2^(min (min (t.next (Z00 c)) 32) 12).toNat)) (Fa (by(simp only[Tape.header,Tape.headerT,hdr1,Z1G];(repeat' split)<;>first | rfl | omega | (exfalso;omega) | simp_all):1=(t.header c).kind) (Fa (by(simp only[Tape.header,Tape.headerT,hdr1,Z1G];(repeat' split)<;>first | rfl | omega | (exfalso;omega) | simp_all):min (t.next (Z00 c)) 32=(t.header c).length) (Fa (by(simp only[Tape.header,Tape.headerT,hdr1,Z1G];(repeat' split)<;>first | rfl | omega | (exfalso;omega) | simp_all):(((t.step (Z00 c)).step 12).step 4).next (2^(min (min (t.next (Z00 c)) 32) 12).toNat)=(t.header c).map) (Fr (37:Int) (Fa (by refine congrArg _ ?_;(simp only[Tape.header,Tape.headerT,hdr1,Z1G];(repeat' split)<;>first | rfl | omega | (exfalso;omega) | simp_all):List.map idv ((((t.step (Z00 c)).step 12).step 4).step (2^(min (min (t.next (Z00 c)) 32) 12).toNat)).l=List.map idv (t.headerT c).l) (Fa (by(simp only[Tape.header,Tape.headerT,hdr1,Z1G];(repeat' split)<;>first | rfl | omega | (exfalso;omega) | simp_all):((((t.step (Z00 c)).step 12).step 4).step (2^(min (min (t.next (Z00 c)) 32) 12).toNat)).at'=(t.headerT c).at') Fz))))))))))))))))))
abbrev sA(w:WorldM)(t:Tape):Tape:=(t.step (↑w.heap.words.length:Int)).step (↑w.heap.pages.length:Int)
abbrev sB(w:WorldM)(t:Tape):Tape:=(sA w t).step 12
abbrev sC(w:WorldM)(t:Tape):Int:=(t.step (↑w.heap.words.length:Int)).next (↑w.heap.pages.length:Int)
def ULe(l:List Int):Prop:=∀ x∈l,0≤x∧x≤18446744073709551615
structure WMok (w:WorldM):Prop where
 words:WOk w.heap.words
 strong:ULe w.strong
 weak:ULe w.weak
 sl:w.strong.length≤1048576
 wl:w.weak.length≤1048576
def WorldM.refs(w:WorldM):List Int:=0::(w.strong++w.weak)
def WorldM.pick(w:WorldM)(t:Tape):Int:=w.refs.getD (t.next (w.refs.length:Int)).toNat default
def WorldM.pickT(w:WorldM)(t:Tape):Tape:=t.step (w.refs.length:Int)
theorem Z1X(w:WorldM)(t:Tape)(hw:WMok w)(ht:TOk t)(ha:t.at'≤1040000):LentSpec Tryz.prog 68 [w.av,.pt 0 0 0] [t.b] (u64 (w.pick t)) [(w.pickT t).b]:=by
 have h1:=hw.sl
 have h2:=hw.wl
 have hl:w.refs.length=w.strong.length+w.weak.length+1:=by simp[WorldM.refs]
 have hn:=Z0G t (n:=(w.refs.length:Int)) (by omega)
 exact lF Tryz.func68 [true,true] (Fh 12 [.els (List.map wdv ([0]++w.strong++w.weak))] (Fh 19 [.el (wdv (([0]++w.strong++w.weak).getD (t.next (↑(0+1+w.strong.length+w.weak.length):Int)).toNat default))] (Fs 6 (List.map wdv [0]) (Fa (by(simp[WorldM.pick,WorldM.refs,WorldM.pickT, *];omega):(List.map wdv [0]).length+(List.map wdv w.strong).length≤2^30) (Fs 9 (List.map wdv ([0]++w.strong)) (Fa (by(simp[WorldM.pick,WorldM.refs,WorldM.pickT, *];omega):(List.map wdv ([0]++w.strong)).length+(List.map wdv w.weak).length≤2^30) (Fa (by simp[WorldM.pick,WorldM.refs,WorldM.pickT,List.map_take,List.map_drop,List.map_set,List.map_append,wdv,idv]:List.map wdv ([0]++w.strong)++List.map wdv w.weak=List.map wdv ([0]++w.strong++w.weak)) (Fg 16 (by simp only[List.length_map,List.length_append,List.length_take,List.length_drop,List.length_set,List.length_replicate,List.length_nil,List.length_cons]:(↑(List.map wdv ([0]++w.strong++w.weak)).length:Int)=(↑(0+1+w.strong.length+w.weak.length):Int)) (Fp 17 (@Z0x t ((↑(0+1+w.strong.length+w.weak.length):Int)) ‹_› (by omega) (by omega)) (Fa (by grind[WorldM.pick,WorldM.refs,WorldM.pickT]:0≤t.next (↑(0+1+w.strong.length+w.weak.length):Int)∧(t.next (↑(0+1+w.strong.length+w.weak.length):Int)).toNat<(List.map wdv ([0]++w.strong++w.weak)).length) (Fa (by grind[WorldM.pick,WorldM.refs,WorldM.pickT]:(List.map wdv ([0]++w.strong++w.weak))[(t.next (↑(0+1+w.strong.length+w.weak.length):Int)).toNat]? = some (wdv (([0]++w.strong++w.weak).getD (t.next (↑(0+1+w.strong.length+w.weak.length):Int)).toNat default))) (Fa (by grind[WorldM.pick,WorldM.refs,WorldM.pickT]:([0]++w.strong++w.weak).getD (t.next (↑(0+1+w.strong.length+w.weak.length):Int)).toNat default=w.pick t) (Fr (37:Int) (Fa (by refine congrArg _ ?_;grind[WorldM.pick,WorldM.refs,WorldM.pickT]:List.map idv (t.step (↑(0+1+w.strong.length+w.weak.length):Int)).l=List.map idv (w.pickT t).l) (Fa (by grind[WorldM.pick,WorldM.refs,WorldM.pickT]:(t.step (↑(0+1+w.strong.length+w.weak.length):Int)).at'=(w.pickT t).at') Fz)))))))))))))))
def WorldM.put(w:WorldM)(hd:Header):WorldM:=if(new7 w.heap hd).2.2=0 then⟨(new7 w.heap hd).1,w.strong++[(new7 w.heap hd).2.1],w.weak⟩else w
theorem Z77(w:WorldM)(hd:Header)(hw:WMok w)(hm:0≤hd.map∧hd.map≤4294967295):GSpec Tryz.prog 63 [w.av,hd.av] false (w.put hd).av []:=by
 have h0:=hw.words
 have h1:=hw.sl
 have Q0 {h_ c_ p_} (r_:Fq h_ c_ p_):=Fc 12 (@ZfN w.heap hd ‹_› ‹_›) r_
 rcases bb ((new7 w.heap hd).snd.snd==0)with hc0 | hc0<;>have hc0p:=hc0<;>simp only[bs]at hc0p
 ·exact gF [] Tryz.func63 [true] (Fh 25 [.els (List.map wdv (w.strong++[(new7 w.heap hd).snd.fst]))] (Q0 (Ft 17 hc0 (Fs 19 (List.map wdv []) (Fa (by(simp[WorldM.put, *];omega):(List.map wdv []).length+(List.map wdv w.strong).length≤2^30) (Fs 22 (List.map wdv w.strong) (Fs 24 (List.map wdv [(new7 w.heap hd).snd.fst]) (Fa (by(simp[WorldM.put, *];omega):(List.map wdv w.strong).length+(List.map wdv [(new7 w.heap hd).snd.fst]).length≤2^30) (Fa (by simp[WorldM.put,List.map_take,List.map_drop,List.map_set,List.map_append,wdv,idv]:List.map wdv w.strong++List.map wdv [(new7 w.heap hd).snd.fst]=List.map wdv (w.strong++[(new7 w.heap hd).snd.fst])) (Fa (by simp[WorldM.put, *]:(new7 w.heap hd).fst.conf.pw=(w.put hd).heap.conf.pw) (Fa (by simp[WorldM.put, *]:(new7 w.heap hd).fst.conf.pg=(w.put hd).heap.conf.pg) (Fa (by refine congrArg _ ?_;simp[WorldM.put, *]:List.map wdv (new7 w.heap hd).fst.words=List.map wdv (w.put hd).heap.words) (Fa (by refine congrArg _ ?_;simp[WorldM.put, *]:List.map Page.dv (new7 w.heap hd).fst.pages=List.map Page.dv (w.put hd).heap.pages) (Fa (by simp[WorldM.put, *]:(new7 w.heap hd).fst.space=(w.put hd).heap.space) (Fa (by simp[WorldM.put, *]:(new7 w.heap hd).fst.bump=(w.put hd).heap.bump) (Fa (by refine congrArg _ ?_;simp[WorldM.put, *]:List.map wdv (w.strong++[(new7 w.heap hd).snd.fst])=List.map wdv (w.put hd).strong) (Fa (by refine congrArg _ ?_;simp[WorldM.put, *]:List.map wdv w.weak=List.map wdv (w.put hd).weak) Fz)))))))))))))))))
 ·exact gF [] Tryz.func63 [true] (Q0 (Ff 17 hc0 (Fa (by simp[WorldM.put, *]:w.heap.conf.pw=(w.put hd).heap.conf.pw) (Fa (by simp[WorldM.put, *]:w.heap.conf.pg=(w.put hd).heap.conf.pg) (Fa (by refine congrArg _ ?_;simp[WorldM.put, *]:List.map wdv w.heap.words=List.map wdv (w.put hd).heap.words) (Fa (by refine congrArg _ ?_;simp[WorldM.put, *]:List.map Page.dv w.heap.pages=List.map Page.dv (w.put hd).heap.pages) (Fa (by simp[WorldM.put, *]:w.heap.space=(w.put hd).heap.space) (Fa (by simp[WorldM.put, *]:w.heap.bump=(w.put hd).heap.bump) (Fa (by refine congrArg _ ?_;simp[WorldM.put, *]:List.map wdv w.strong=List.map wdv (w.put hd).strong) (Fa (by refine congrArg _ ?_;simp[WorldM.put, *]:List.map wdv w.weak=List.map wdv (w.put hd).weak) Fz))))))))))
abbrev pA(w:WorldM)(t:Tape):Page:=w.heap.pages.getD (ofA w.heap.conf (w.pick t)).fst.toNat default
theorem Z59{l:List Int}(h:ULe l)(i:Nat):0≤l.getD i default∧l.getD i default≤18446744073709551615:=by
 rw[List.getD_eq_getElem?_getD]
 cases e:l[i]? with
 | none=>simp
 | some x=>exact h x (List.mem_of_getElem? e)
theorem Zld{w:WorldM}(hw:WMok w):ULe w.refs:=by
 intro x hx
 simp only[WorldM.refs,List.mem_cons,List.mem_append]at hx
 rcases hx with rfl | hx | hx
 ·omega
 ·exact hw.strong x hx
 ·exact hw.weak x hx
theorem Z2P{w:WorldM}(hw:WMok w)(t:Tape):0≤w.pick t∧w.pick t≤18446744073709551615:=Z59 (Zld hw) _
theorem Z9Q(w:WorldM)(t:Tape):t.at'≤(w.pickT t).at'∧(w.pickT t).at'≤t.at'+1∧(w.pickT t).l=t.l:=Z3B _
def Z1J(w:WorldM)(t:Tape):Int:=((w.pickT (w.pickT t)).next 8).tmod (getH w.heap (w.pick t)).1.length
def Z1L(w:WorldM)(t:Tape):Int:=if Z0m (getH w.heap (w.pick t)).1 (Z1J w t)=true then w.pick (w.pickT t)else((w.pickT (w.pickT t)).step 8).next 1048576
def WorldM.link(w:WorldM)(t:Tape):WorldM:=if(getH w.heap (w.pick t)).2=0∧(getH w.heap (w.pick t)).1.length≠0 then⟨(Z0f w.heap (w.pick t) (Z1J w t) (Z1L w t)).1,w.strong,w.weak⟩else w
def WorldM.linkT(w:WorldM)(t:Tape):Tape:=if(getH w.heap (w.pick t)).2=0∧(getH w.heap (w.pick t)).1.length≠0∧Z0m (getH w.heap (w.pick t)).1 (Z1J w t)=false then((w.pickT (w.pickT t)).step 8).step 1048576 else(w.pickT (w.pickT t)).step 8
theorem Z8c(w:WorldM)(t:Tape)(hw:WMok w)(ht:TOk t)(ha:t.at'≤1000000):LentSpec Tryz.prog 64 [w.av,.pt 0 0 0] [t.b] (w.link t).av [(w.linkT t).b]:=by
 have h0:=hw.words
 have s1:=Z9Q w t
 have s2:=Z9Q w (w.pickT t)
 have s3:=Z3B (t:=w.pickT (w.pickT t)) 8
 have k1:=Z4C ht s1.2.2 (by omega) (by omega)
 have k2:=Z4C k1 s2.2.2 (by omega) (by omega)
 have k3:=Z4C k2 s3.2.2 (by omega) (by omega)
 have p1:=Z2P hw t
 have p2:=Z2P hw (w.pickT t)
 have n1:=Z0G (w.pickT (w.pickT t)) (n:=8) (by decide)
 have n2:=Z0G ((w.pickT (w.pickT t)).step 8) (n:=1048576) (by decide)
 have m1:=ZaP hw.words (w.pick t)
 have Q0 {h_ c_ p_} (r_:Fq h_ c_ p_):=Fp 12 (@Z1X w t ‹_› ‹_› (by omega)) (Fp 15 (@Z1X w (w.pickT t) ‹_› ‹_› (by omega)) (Fp 17 (@Z0x (w.pickT (w.pickT t)) (8) ‹_› (by omega) (by omega)) (Fc 22 (@Z3z w.heap (w.pick t) ‹_› ‹_›) r_)))
 rcases bb ((getH w.heap (w.pick t)).snd != 0||(getH w.heap (w.pick t)).fst.length==0)with hc0 | hc0<;>have hc0p:=hc0<;>simp only[bs]at hc0p
 ·exact lF Tryz.func64 [false,false,false,true,true] (Q0 (Ft 31 hc0 (Fa (by(simp only[WorldM.link,WorldM.linkT,Z1J,Z1L];(repeat' split)<;>first | rfl | omega | (exfalso;omega) | simp_all):w.heap.conf.pw=(w.link t).heap.conf.pw) (Fa (by(simp only[WorldM.link,WorldM.linkT,Z1J,Z1L];(repeat' split)<;>first | rfl | omega | (exfalso;omega) | simp_all):w.heap.conf.pg=(w.link t).heap.conf.pg) (Fa (by refine congrArg _ ?_;(simp only[WorldM.link,WorldM.linkT,Z1J,Z1L];(repeat' split)<;>first | rfl | omega | (exfalso;omega) | simp_all):List.map wdv w.heap.words=List.map wdv (w.link t).heap.words) (Fa (by refine congrArg _ ?_;(simp only[WorldM.link,WorldM.linkT,Z1J,Z1L];(repeat' split)<;>first | rfl | omega | (exfalso;omega) | simp_all):List.map Page.dv w.heap.pages=List.map Page.dv (w.link t).heap.pages) (Fa (by(simp only[WorldM.link,WorldM.linkT,Z1J,Z1L];(repeat' split)<;>first | rfl | omega | (exfalso;omega) | simp_all):w.heap.space=(w.link t).heap.space) (Fa (by(simp only[WorldM.link,WorldM.linkT,Z1J,Z1L];(repeat' split)<;>first | rfl | omega | (exfalso;omega) | simp_all):w.heap.bump=(w.link t).heap.bump) (Fa (by refine congrArg _ ?_;(simp only[WorldM.link,WorldM.linkT,Z1J,Z1L];(repeat' split)<;>first | rfl | omega | (exfalso;omega) | simp_all):List.map wdv w.strong=List.map wdv (w.link t).strong) (Fa (by refine congrArg _ ?_;(simp only[WorldM.link,WorldM.linkT,Z1J,Z1L];(repeat' split)<;>first | rfl | omega | (exfalso;omega) | simp_all):List.map wdv w.weak=List.map wdv (w.link t).weak) (Fr (37:Int) (Fa (by refine congrArg _ ?_;grind[WorldM.link,WorldM.linkT,Z1J,Z1L]:List.map idv ((w.pickT (w.pickT t)).step 8).l=List.map idv (w.linkT t).l) (Fa (by grind[WorldM.link,WorldM.linkT,Z1J,Z1L]:((w.pickT (w.pickT t)).step 8).at'=(w.linkT t).at') Fz)))))))))))))
 ·obtain⟨hc0pa,hc0pb⟩:=hc0p
  have hf3:=Z3Y hc0pa
  obtain⟨hf3a,⟨hf3ba,⟨hf3bba,⟨hf3bbba,⟨hf3bbbba,⟨hf3bbbbba,⟨hf3bbbbbba,⟨hf3bbbbbbba,⟨hf3bbbbbbbba,⟨hf3bbbbbbbbba,hf3bbbbbbbbbb⟩⟩⟩⟩⟩⟩⟩⟩⟩⟩:=hf3
  have Q1 {h_ c_ p_} (r_:Fq h_ c_ p_):=Q0 (Ff 31 hc0 (Fg 36 (by exact Int.tmod_eq_emod_of_nonneg (by omega):((w.pickT (w.pickT t)).next 8).tmod (getH w.heap (w.pick t)).fst.length=(w.pickT (w.pickT t)).next 8%(getH w.heap (w.pick t)).fst.length) (Fo ((getH w.heap (w.pick t)).fst.length≠0) (Fc 39 (@Z2a ((getH w.heap (w.pick t)).fst) ((w.pickT (w.pickT t)).next 8%(getH w.heap (w.pick t)).fst.length) ‹_›) r_))))
  rcases bb (!Z0m (getH w.heap (w.pick t)).fst ((w.pickT (w.pickT t)).next 8%(getH w.heap (w.pick t)).fst.length))with hc6 | hc6<;>have hc6p:=hc6<;>simp only[bs]at hc6p
  ·exact lF Tryz.func64 [false,false,false,true,true] (Q1 (Ft 40 hc6 (Fp 42 (@Z0x ((w.pickT (w.pickT t)).step 8) (1048576) ‹_› (by omega) (by omega)) (Fv 43 (((w.pickT (w.pickT t)).step 8).next 1048576) (Fc 50 (@Z6M w.heap (w.pick t) ((w.pickT (w.pickT t)).next 8%(getH w.heap (w.pick t)).fst.length) (((w.pickT (w.pickT t)).step 8).next 1048576) ‹_› ‹_›) (Fa (by grind[WorldM.link,WorldM.linkT,Z1J,Z1L]:(Z0f w.heap (w.pick t) ((w.pickT (w.pickT t)).next 8%(getH w.heap (w.pick t)).fst.length) (((w.pickT (w.pickT t)).step 8).next 1048576)).fst.conf.pw=(w.link t).heap.conf.pw) (Fa (by grind[WorldM.link,WorldM.linkT,Z1J,Z1L]:(Z0f w.heap (w.pick t) ((w.pickT (w.pickT t)).next 8%(getH w.heap (w.pick t)).fst.length) (((w.pickT (w.pickT t)).step 8).next 1048576)).fst.conf.pg=(w.link t).heap.conf.pg) (Fa (by refine congrArg _ ?_;grind[WorldM.link,WorldM.linkT,Z1J,Z1L]:List.map wdv (Z0f w.heap (w.pick t) ((w.pickT (w.pickT t)).next 8%(getH w.heap (w.pick t)).fst.length) (((w.pickT (w.pickT t)).step 8).next 1048576)).fst.words=List.map wdv (w.link t).heap.words) (Fa (by refine congrArg _ ?_;grind[WorldM.link,WorldM.linkT,Z1J,Z1L]:List.map Page.dv (Z0f w.heap (w.pick t) ((w.pickT (w.pickT t)).next 8%(getH w.heap (w.pick t)).fst.length) (((w.pickT (w.pickT t)).step 8).next 1048576)).fst.pages=List.map Page.dv (w.link t).heap.pages) (Fa (by grind[WorldM.link,WorldM.linkT,Z1J,Z1L]:(Z0f w.heap (w.pick t) ((w.pickT (w.pickT t)).next 8%(getH w.heap (w.pick t)).fst.length) (((w.pickT (w.pickT t)).step 8).next 1048576)).fst.space=(w.link t).heap.space) (Fa (by grind[WorldM.link,WorldM.linkT,Z1J,Z1L]:(Z0f w.heap (w.pick t) ((w.pickT (w.pickT t)).next 8%(getH w.heap (w.pick t)).fst.length) (((w.pickT (w.pickT t)).step 8).next 1048576)).fst.bump=(w.link t).heap.bump) (Fa (by refine congrArg _ ?_;(simp only[WorldM.link,WorldM.linkT,Z1J,Z1L];(repeat' split)<;>first | rfl | omega | (exfalso;omega) | simp_all):List.map wdv w.strong=List.map wdv (w.link t).strong) (Fa (by refine congrArg _ ?_;(simp only[WorldM.link,WorldM.linkT,Z1J,Z1L];(repeat' split)<;>first | rfl | omega | (exfalso;omega) | simp_all):List.map wdv w.weak=List.map wdv (w.link t).weak) (Fr (37:Int) (Fa (by refine congrArg _ ?_;grind[WorldM.link,WorldM.linkT,Z1J,Z1L]:List.map idv (((w.pickT (w.pickT t)).step 8).step 1048576).l=List.map idv (w.linkT t).l) (Fa (by grind[WorldM.link,WorldM.linkT,Z1J,Z1L]:(((w.pickT (w.pickT t)).step 8).step 1048576).at'=(w.linkT t).at') Fz))))))))))))))))
  ·exact lF Tryz.func64 [false,false,false,true,true] (Q1 (Ff 40 hc6 (Fc 50 (@Z6M w.heap (w.pick t) ((w.pickT (w.pickT t)).next 8%(getH w.heap (w.pick t)).fst.length) (w.pick (w.pickT t)) ‹_› ‹_›) (Fa (by grind[WorldM.link,WorldM.linkT,Z1J,Z1L]:(Z0f w.heap (w.pick t) ((w.pickT (w.pickT t)).next 8%(getH w.heap (w.pick t)).fst.length) (w.pick (w.pickT t))).fst.conf.pw=(w.link t).heap.conf.pw) (Fa (by grind[WorldM.link,WorldM.linkT,Z1J,Z1L]:(Z0f w.heap (w.pick t) ((w.pickT (w.pickT t)).next 8%(getH w.heap (w.pick t)).fst.length) (w.pick (w.pickT t))).fst.conf.pg=(w.link t).heap.conf.pg) (Fa (by refine congrArg _ ?_;grind[WorldM.link,WorldM.linkT,Z1J,Z1L]:List.map wdv (Z0f w.heap (w.pick t) ((w.pickT (w.pickT t)).next 8%(getH w.heap (w.pick t)).fst.length) (w.pick (w.pickT t))).fst.words=List.map wdv (w.link t).heap.words) (Fa (by refine congrArg _ ?_;grind[WorldM.link,WorldM.linkT,Z1J,Z1L]:List.map Page.dv (Z0f w.heap (w.pick t) ((w.pickT (w.pickT t)).next 8%(getH w.heap (w.pick t)).fst.length) (w.pick (w.pickT t))).fst.pages=List.map Page.dv (w.link t).heap.pages) (Fa (by grind[WorldM.link,WorldM.linkT,Z1J,Z1L]:(Z0f w.heap (w.pick t) ((w.pickT (w.pickT t)).next 8%(getH w.heap (w.pick t)).fst.length) (w.pick (w.pickT t))).fst.space=(w.link t).heap.space) (Fa (by grind[WorldM.link,WorldM.linkT,Z1J,Z1L]:(Z0f w.heap (w.pick t) ((w.pickT (w.pickT t)).next 8%(getH w.heap (w.pick t)).fst.length) (w.pick (w.pickT t))).fst.bump=(w.link t).heap.bump) (Fa (by refine congrArg _ ?_;(simp only[WorldM.link,WorldM.linkT,Z1J,Z1L];(repeat' split)<;>first | rfl | omega | (exfalso;omega) | simp_all):List.map wdv w.strong=List.map wdv (w.link t).strong) (Fa (by refine congrArg _ ?_;(simp only[WorldM.link,WorldM.linkT,Z1J,Z1L];(repeat' split)<;>first | rfl | omega | (exfalso;omega) | simp_all):List.map wdv w.weak=List.map wdv (w.link t).weak) (Fr (37:Int) (Fa (by refine congrArg _ ?_;grind[WorldM.link,WorldM.linkT,Z1J,Z1L]:List.map idv ((w.pickT (w.pickT t)).step 8).l=List.map idv (w.linkT t).l) (Fa (by grind[WorldM.link,WorldM.linkT,Z1J,Z1L]:((w.pickT (w.pickT t)).step 8).at'=(w.linkT t).at') Fz))))))))))))))
def Z0J(l:List Page):Nat→Nat
 | 0=>0
 | i+1=>Z0J l i+(if(l.getD i default).kind=1∧0<(l.getD i default).pins then 1 else 0)
theorem Z3M(l:List Page):∀ i,Z0J l i≤i
 | 0=>Nat.le_refl _
 | i+1=>by
  have:=Z3M l i
  simp only[Z0J]
  split<;>omega
def crowd(l:List Page):Nat:=Z0J l l.length
def ZeC(h:Heap)(i:Nat):Tg:=⟨tm 31 [(1,.pt 8001 0 0),(3,int (Z0J h.pages i)),(4,int i)],[(8001,.box 28 h.cells)],60⟩
theorem ZeN(h:Heap)(hl:h.pages.length≤1048576)(i:Nat)(hi:i<h.pages.length):CSpec Tryz.prog (rndF Tryz.f105 0) (ZeC h i).st .nrm (ZeC h (i+1)).st:=by
 have hc:=Z3M h.pages i
 have Q0 {h_ c_ p_} (r_:Fq h_ c_ p_):=Fl 8 Page.dv h.pages (Ftb 9 (decide ((↑i:Int)<(↑h.pages.length:Int))) (Fek 15 Page.dv h.pages (↑i) i (FeG 23 ((h.pages.getD i default).kind==1) Page.dv h.pages (↑i) i r_)))
 rcases bb ((h.pages.getD i default).kind==1&&decide (0<(h.pages.getD i default).pins))with hc0 | hc0<;>have hc0p:=hc0<;>simp only[bs]at hc0p
 ·obtain⟨hc0pa,hc0pb⟩:=hc0p
  exact sF [] [false,false,false,false,false,false,false,false,true] (Q0 (Ft 27 hc0 (Fw 29 ((↑(Z0J h.pages i):Int)+1) (↑(Z0J h.pages i+1):Int) (Fx 11 i (Fa (by(simp only[Z0J];(repeat' split)<;>first | rfl | omega | (exfalso;omega) | simp_all):(↑(Z0J h.pages i+1):Int)=(↑(Z0J h.pages (i+1)):Int)) Fz)))))
 ·exact sF [] [false,false,false,false,false,false,false,false,true] (Q0 (Ff 27 hc0 (Fx 11 i (Fa (by(simp only[Z0J];(repeat' split)<;>first | rfl | omega | (exfalso;omega) | simp_all):(↑(Z0J h.pages i):Int)=(↑(Z0J h.pages (i+1)):Int)) Fz))))
theorem ZiE(h:Heap):CSpec Tryz.prog (rndF Tryz.f105 0) (ZeC h h.pages.length).st (.ext 0) (Tg.st ⟨tm 31 [(3,int (crowd h.pages))],[],60⟩):=by
 exact sF [] [] (Fl 8 Page.dv h.pages (Ffb 9 (decide ((↑h.pages.length:Int)<(↑h.pages.length:Int))) Fz))
theorem Zgo(h:Heap)(hl:h.pages.length≤1048576):CSpec Tryz.prog (blkF Tryz.f105 0) (Tg.st ⟨tm 31 [(1,.pt 8001 0 0),(3,int 0),(4,int 0)],[(8001,.box 28 h.cells)],60⟩) .nrm (Tg.st ⟨tm 31 [(3,int (crowd h.pages))],[],60⟩) :=
 Z0c (S:=fun i=>(ZeC h i).st) h.pages.length (by kernel_rfl) (fun i hi=>ZeN h hl i hi) (ZiE h)
theorem Z7U(h:Heap)(hl:h.pages.length≤1048576):GSpec Tryz.prog 105 [h.av] true (int (crowd h.pages)) []:=by
 exact gF [] Tryz.func105 [] (Fu (@Zgo h ‹_›) Fz)
def ZfT(w:WorldM)(t:Tape):Int:=t.next (w.strong.length:Int)
def WorldM.drop(w:WorldM)(t:Tape):WorldM :=
 if 0<w.strong.length then⟨w.heap,w.strong.take (ZfT w t).toNat++w.strong.drop ((ZfT w t).toNat+1),if(t.step (w.strong.length:Int)).next 3=0 then w.weak++[w.strong.getD (ZfT w t).toNat default]else w.weak⟩else w
def WorldM.dropT(w:WorldM)(t:Tape):Tape:=if 0<w.strong.length then(t.step (w.strong.length:Int)).step 3 else t
theorem ZaQ(w:WorldM)(t:Tape)(hw:WMok w)(ht:TOk t)(ha:t.at'≤1040000):LentSpec Tryz.prog 66 [w.av,.pt 0 0 0] [t.b] (w.drop t).av [(w.dropT t).b]:=by
 have h1:=hw.sl
 have h2:=hw.wl
 have s1:=Z3B (t:=t) (w.strong.length:Int)
 have k1:=Z4C ht s1.2.2 (by omega) (by omega)
 have n1:=fun h=>Z0G t (n:=(w.strong.length:Int)) h
 by_cases c1:0<w.strong.length
 ·have eT:w.dropT t=(t.step (w.strong.length:Int)).step 3:=by rw[WorldM.dropT,if_pos c1]
  by_cases c2:(t.step (w.strong.length:Int)).next 3=0
  ·have eP:w.drop t=⟨w.heap,w.strong.take (t.next (w.strong.length:Int)).toNat++w.strong.drop ((t.next (w.strong.length:Int)).toNat+1),w.weak++[w.strong.getD (t.next (w.strong.length:Int)).toNat default]⟩:=by rw[WorldM.drop,if_pos c1,if_pos c2];rfl
   rw[eP,eT]
   exact lF Tryz.func66 [true] (Fh 28 [.els (List.map wdv (w.weak++[w.strong.getD (t.next (↑w.strong.length:Int)).toNat default]))] (Fh 35 [.els (List.map wdv (List.take (t.next (↑w.strong.length:Int)).toNat w.strong))] (Fh 40 [.els (List.map wdv (List.drop (t.next (↑w.strong.length:Int)+1).toNat w.strong))] (Fh 41 [.els (List.map wdv (List.take (t.next (↑w.strong.length:Int)).toNat w.strong++List.drop (t.next (↑w.strong.length:Int)+1).toNat w.strong))] (Fl 9 wdv w.strong (Ftb 11 (decide (0<(↑w.strong.length:Int))) (Fp 14 (@Z0x t ((↑w.strong.length:Int)) ‹_› (by omega) (by omega)) (Fp 16 (@Z0x (t.step (↑w.strong.length:Int)) (3) ‹_› (by omega) (by omega)) (Ftb 17 ((t.step (↑w.strong.length:Int)).next (3:Int)==0) (Fs 18 (List.map wdv []) (Fa (by(simp[*];omega):(List.map wdv []).length+(List.map wdv w.weak).length≤2^30) (Fs 21 (List.map wdv w.weak) (Fek 25 wdv w.strong (t.next (↑w.strong.length:Int)) ((t.next (↑w.strong.length:Int)).toNat) (Fs 27 (List.map wdv [w.strong.getD (t.next (↑w.strong.length:Int)).toNat default]) (Fa (by(simp[*];omega):(List.map wdv w.weak).length+(List.map wdv [w.strong.getD (t.next (↑w.strong.length:Int)).toNat default]).length≤2^30) (Fa (by simp[List.map_take,List.map_drop,List.map_set,List.map_append,wdv,idv]:List.map wdv w.weak++List.map wdv [w.strong.getD (t.next (↑w.strong.length:Int)).toNat default]=List.map wdv (w.weak++[w.strong.getD (t.next (↑w.strong.length:Int)).toNat default])) (Fs 30 (List.map wdv []) (Fa (by(simp only[List.length_map];omega):0≤t.next (↑w.strong.length:Int)∧t.next (↑w.strong.length:Int)≤(↑(List.map wdv w.strong).length:Int)) (Fa (by simp[List.map_take,List.map_drop,List.map_set,List.map_append,wdv,idv]:List.take (t.next (↑w.strong.length:Int)).toNat (List.map wdv w.strong)=List.map wdv (List.take (t.next (↑w.strong.length:Int)).toNat w.strong)) (Fa (by(simp[*];omega):(List.map wdv []).length+(List.map wdv (List.take (t.next (↑w.strong.length:Int)).toNat w.strong)).length≤2^30) (Fs 34 (List.map wdv (List.take (t.next (↑w.strong.length:Int)).toNat w.strong)) (Fi 39 (t.next (↑w.strong.length:Int)+1) (Fa (by(simp only[List.length_map];omega):0≤t.next (↑w.strong.length:Int)+1∧t.next (↑w.strong.length:Int)+1≤(↑(List.map wdv w.strong).length:Int)) (Fa (by simp[List.map_take,List.map_drop,List.map_set,List.map_append,wdv,idv]:List.drop (t.next (↑w.strong.length:Int)+1).toNat (List.map wdv w.strong)=List.map wdv (List.drop (t.next (↑w.strong.length:Int)+1).toNat w.strong)) (Fa (by(simp[*];omega):(List.map wdv (List.take (t.next (↑w.strong.length:Int)).toNat w.strong)).length+(List.map wdv (List.drop (t.next (↑w.strong.length:Int)+1).toNat w.strong)).length≤2^30) (Fa (by simp[List.map_take,List.map_drop,List.map_set,List.map_append,wdv,idv]:List.map wdv (List.take (t.next (↑w.strong.length:Int)).toNat w.strong)++List.map wdv (List.drop (t.next (↑w.strong.length:Int)+1).toNat w.strong)=List.map wdv (List.take (t.next (↑w.strong.length:Int)).toNat w.strong++List.drop (t.next (↑w.strong.length:Int)+1).toNat w.strong)) (Fr w.heap.conf.pw (Fr w.heap.conf.pg (Fr (List.map wdv w.heap.words) (Fr (List.map Page.dv w.heap.pages) (Fr w.heap.space (Fr w.heap.bump (Fa (by refine congrArg _ ?_;(simp[*];omega):List.map wdv (List.take (t.next (↑w.strong.length:Int)).toNat w.strong++List.drop (t.next (↑w.strong.length:Int)+1).toNat w.strong)=List.map wdv (WorldM.mk w.heap (List.take (t.next (↑w.strong.length:Int)).toNat w.strong++List.drop ((t.next (↑w.strong.length:Int)).toNat+1) w.strong) (w.weak++[w.strong.getD (t.next (↑w.strong.length:Int)).toNat default])).strong) (Fr (List.map wdv (w.weak++[w.strong.getD (t.next (↑w.strong.length:Int)).toNat default])) Fz))))))))))))))))))))))))))))))))))
  ·have eP:w.drop t=⟨w.heap,w.strong.take (t.next (w.strong.length:Int)).toNat++w.strong.drop ((t.next (w.strong.length:Int)).toNat+1),w.weak⟩:=by rw[WorldM.drop,if_pos c1,if_neg c2];rfl
   rw[eP,eT]
   exact lF Tryz.func66 [true] (Fh 35 [.els (List.map wdv (List.take (t.next (↑w.strong.length:Int)).toNat w.strong))] (Fh 40 [.els (List.map wdv (List.drop (t.next (↑w.strong.length:Int)+1).toNat w.strong))] (Fh 41 [.els (List.map wdv (List.take (t.next (↑w.strong.length:Int)).toNat w.strong++List.drop (t.next (↑w.strong.length:Int)+1).toNat w.strong))] (Fl 9 wdv w.strong (Ftb 11 (decide (0<(↑w.strong.length:Int))) (Fp 14 (@Z0x t ((↑w.strong.length:Int)) ‹_› (by omega) (by omega)) (Fp 16 (@Z0x (t.step (↑w.strong.length:Int)) (3) ‹_› (by omega) (by omega)) (Ffb 17 ((t.step (↑w.strong.length:Int)).next (3:Int)==0) (Fs 30 (List.map wdv []) (Fa (by(simp only[List.length_map];omega):0≤t.next (↑w.strong.length:Int)∧t.next (↑w.strong.length:Int)≤(↑(List.map wdv w.strong).length:Int)) (Fa (by simp[List.map_take,List.map_drop,List.map_set,List.map_append,wdv,idv]:List.take (t.next (↑w.strong.length:Int)).toNat (List.map wdv w.strong)=List.map wdv (List.take (t.next (↑w.strong.length:Int)).toNat w.strong)) (Fa (by(simp[*];omega):(List.map wdv []).length+(List.map wdv (List.take (t.next (↑w.strong.length:Int)).toNat w.strong)).length≤2^30) (Fs 34 (List.map wdv (List.take (t.next (↑w.strong.length:Int)).toNat w.strong)) (Fi 39 (t.next (↑w.strong.length:Int)+1) (Fa (by(simp only[List.length_map];omega):0≤t.next (↑w.strong.length:Int)+1∧t.next (↑w.strong.length:Int)+1≤(↑(List.map wdv w.strong).length:Int)) (Fa (by simp[List.map_take,List.map_drop,List.map_set,List.map_append,wdv,idv]:List.drop (t.next (↑w.strong.length:Int)+1).toNat (List.map wdv w.strong)=List.map wdv (List.drop (t.next (↑w.strong.length:Int)+1).toNat w.strong)) (Fa (by(simp[*];omega):(List.map wdv (List.take (t.next (↑w.strong.length:Int)).toNat w.strong)).length+(List.map wdv (List.drop (t.next (↑w.strong.length:Int)+1).toNat w.strong)).length≤2^30) (Fa (by simp[List.map_take,List.map_drop,List.map_set,List.map_append,wdv,idv]:List.map wdv (List.take (t.next (↑w.strong.length:Int)).toNat w.strong)++List.map wdv (List.drop (t.next (↑w.strong.length:Int)+1).toNat w.strong)=List.map wdv (List.take (t.next (↑w.strong.length:Int)).toNat w.strong++List.drop (t.next (↑w.strong.length:Int)+1).toNat w.strong)) (Fr w.heap.conf.pw (Fr w.heap.conf.pg (Fr (List.map wdv w.heap.words) (Fr (List.map Page.dv w.heap.pages) (Fr w.heap.space (Fr w.heap.bump (Fa (by refine congrArg _ ?_;(simp[*];omega):List.map wdv (List.take (t.next (↑w.strong.length:Int)).toNat w.strong++List.drop (t.next (↑w.strong.length:Int)+1).toNat w.strong)=List.map wdv (WorldM.mk w.heap (List.take (t.next (↑w.strong.length:Int)).toNat w.strong++List.drop ((t.next (↑w.strong.length:Int)).toNat+1) w.strong) w.weak).strong) (Fr (List.map wdv w.weak) Fz))))))))))))))))))))))))))
 ·have eP:w.drop t=w:=by rw[WorldM.drop,if_neg c1]
  have eT:w.dropT t=t:=by rw[WorldM.dropT,if_neg c1]
  rw[eP,eT]
  exact lF Tryz.func66 [] (Fl 9 wdv w.strong (Ffb 11 (decide (0<(↑w.strong.length:Int))) Fz))
def crwL(h:Heap)(i:Nat):Tg:=⟨tm 65 [(1,.pt 8001 0 0),(2,.pt 8002 0 0),(6,int (Z0J h.pages i)),(7,int i)],[(8002,.box 82 [int 0,int 0,u64 0]),(8001,.box 28 h.cells)],64⟩
theorem ZjO(h:Heap)(i:Nat)(hp:Z03 h=true)(hi:i<h.pages.length):CSpec Tryz.prog (rndF Tryz.f44 2) (crwL h i).st .nrm (crwL h (i+1)).st:=by
 have po:=Z09 hp
 have:=Z3M h.pages i
 by_cases h1:(h.pages.getD i default).kind=1
 ·by_cases h2:0<(h.pages.getD i default).pins
  ·have e:Z0J h.pages (i+1)=Z0J h.pages i+1:=by rw[Z0J,if_pos ⟨h1,h2⟩]
   rw[crwL,crwL,e]
   exact sF [] [] (Fl 35 Page.dv h.pages (Ftb 36 (decide ((↑i:Int)<(↑h.pages.length:Int))) (Fek 42 Page.dv h.pages (↑i) i (FeG 50 ((h.pages.getD i default).kind==1) Page.dv h.pages (↑i) i (Ftb 54 ((h.pages.getD i default).kind==1&&decide (0<(h.pages.getD i default).pins)) (Fw 56 ((↑(Z0J h.pages i):Int)+1) (↑(Z0J h.pages i+1):Int) (Fx 38 i Fz)))))))
  ·have e:Z0J h.pages (i+1)=Z0J h.pages i:=by rw[Z0J,if_neg (fun q=>h2 q.2)];rfl
   rw[crwL,crwL,e]
   exact sF [] [] (Fl 35 Page.dv h.pages (Ftb 36 (decide ((↑i:Int)<(↑h.pages.length:Int))) (Fek 42 Page.dv h.pages (↑i) i (FeG 50 ((h.pages.getD i default).kind==1) Page.dv h.pages (↑i) i (Ffb 54 ((h.pages.getD i default).kind==1&&decide (0<(h.pages.getD i default).pins)) (Fx 38 i Fz))))))
 ·have e:Z0J h.pages (i+1)=Z0J h.pages i:=by rw[Z0J,if_neg (fun q=>h1 q.1)];rfl
  rw[crwL,crwL,e]
  exact sF [] [] (Fl 35 Page.dv h.pages (Ftb 36 (decide ((↑i:Int)<(↑h.pages.length:Int))) (Fek 42 Page.dv h.pages (↑i) i (FeG 50 ((h.pages.getD i default).kind==1) Page.dv h.pages (↑i) i (Ffb 54 ((h.pages.getD i default).kind==1&&decide (0<(h.pages.getD i default).pins)) (Fx 38 i Fz))))))
theorem ZlD(h:Heap)(hp:Z03 h=true):CSpec Tryz.prog (rndF Tryz.f44 2) (crwL h h.pages.length).st (.ext 2) (Tg.st ⟨tm 65 [(1,.pt 8001 0 0),(2,.pt 8002 0 0),(6,int (Z0J h.pages h.pages.length))],[(8002,.box 82 [int 0,int 0,u64 0]),(8001,.box 28 h.cells)],64⟩):=by
 have po:=Z09 hp
 exact sF [] [] (Fl 35 Page.dv h.pages (Ffb 36 (decide ((↑h.pages.length:Int)<(↑h.pages.length:Int))) Fz))
theorem Zh0(h:Heap)(hp:Z03 h=true):CSpec Tryz.prog (blkF Tryz.f44 2) (Tg.st ⟨tm 65 [(1,.pt 8001 0 0),(2,.pt 8002 0 0),(6,int 0),(7,int 0)],[(8002,.box 82 [int 0,int 0,u64 0]),(8001,.box 28 h.cells)],64⟩) .nrm (Tg.st ⟨tm 65 [(1,.pt 8001 0 0),(2,.pt 8002 0 0),(6,int (Z0J h.pages h.pages.length))],[(8002,.box 82 [int 0,int 0,u64 0]),(8001,.box 28 h.cells)],64⟩) :=
 Z0c (S:=fun k=>(crwL h k).st) h.pages.length (by kernel_rfl) (fun k hk=>ZjO h k hp hk) (ZlD h hp)
theorem ZeS(h:Heap)(hw:WOk h.words)(hp:Z03 h=true)(hb:Z5t h=none)(hq:(Z0V h (Z08 h).1).fault=0)(hc:h.conf.pg/4<(Z0J h.pages h.pages.length:Nat)):GSpec Tryz.prog 44 [h.av] true (Finding.mk 7 0 0).av []:=by
 have po:=Z09 hp
 have:=Z3M h.pages h.pages.length
 exact gF [] Tryz.func44 [] (Fc 9 (@Z0l h) (Ffb 10 (!Z03 h) (Fu (@ZcA h ‹_› ‹_› ‹_›) (Fc 27 (@Z4n h ‹_›) (Ffb 30 ((Z0V h (Z08 h).fst).fault != 0) (Fu (@Zh0 h ‹_›) (Fg 61 (by rw[Int.tdiv_eq_ediv_of_nonneg (by omega),wrapI' (by omega) (by omega)]:IntKind.i64.wrap (h.conf.pg.tdiv 4)=h.conf.pg/4) (Fa (by decide:(4:Int)≠0) (Ftb 62 (decide (h.conf.pg/4<(↑(Z0J h.pages h.pages.length):Int))) Fz)))))))))
theorem Zh1(h:Heap)(hw:WOk h.words)(hp:Z03 h=true)(hb:Z5t h=none)(hq:(Z0V h (Z08 h).1).fault=0)(hc:¬ h.conf.pg/4<(Z0J h.pages h.pages.length:Nat)):GSpec Tryz.prog 44 [h.av] true (Finding.mk 0 0 0).av []:=by
 have po:=Z09 hp
 have:=Z3M h.pages h.pages.length
 exact gF [] Tryz.func44 [] (Fc 9 (@Z0l h) (Ffb 10 (!Z03 h) (Fu (@ZcA h ‹_› ‹_› ‹_›) (Fc 27 (@Z4n h ‹_›) (Ffb 30 ((Z0V h (Z08 h).fst).fault != 0) (Fu (@Zh0 h ‹_›) (Fg 61 (by rw[Int.tdiv_eq_ediv_of_nonneg (by omega),wrapI' (by omega) (by omega)]:IntKind.i64.wrap (h.conf.pg.tdiv 4)=h.conf.pg/4) (Fa (by decide:(4:Int)≠0) (Ffb 62 (decide (h.conf.pg/4<(↑(Z0J h.pages h.pages.length):Int))) Fz)))))))))
def Z0O(h:Heap):Finding :=
 if Z03 h=true then
  match Z5t h with
  | some i=>pageF h i
  | none =>
   if(Z0V h (Z08 h).1).fault≠0 then Z0V h (Z08 h).1
   else if h.conf.pg/4<(Z0J h.pages h.pages.length:Nat)then⟨7,0,0⟩else⟨0,0,0⟩
 else⟨1,0,0⟩
theorem Z5V(h:Heap)(hw:WOk h.words):GSpec Tryz.prog 44 [h.av] true (Z0O h).av []:=by
 unfold Z0O
 by_cases hp:Z03 h=true
 ·rw[if_pos hp]
  cases hb:Z5t h with
  | some i=>exact Zhb h hw hp i hb
  | none =>
   by_cases hq:(Z0V h (Z08 h).1).fault=0
   ·simp only[hq,ne_eq,not_true_eq_false,if_false]
    by_cases hc:h.conf.pg/4<(Z0J h.pages h.pages.length:Nat)
    ·rw[if_pos hc];exact ZeS h hw hp hb hq hc
    ·rw[if_neg hc];exact Zh1 h hw hp hb hq hc
   ·simp only[ne_eq,hq,not_false_eq_true,if_true]
    exact Zj6 h hw hp hb hq
 ·rw[if_neg hp]
  exact Zj5 h hw (by simpa using hp)
theorem Z71(h:Heap)(hw:WOk h.words):GSpec Tryz.prog 14 [h.av] true (bool (decide (Z0O h=⟨0,0,0⟩))) []:=by
 by_cases h1:(Z0O h).fault=0
 ·by_cases h2:(Z0O h).page=0
  ·by_cases h3:(Z0O h).addr=0
   ·have e:decide (Z0O h=⟨0,0,0⟩)=true:=by
     apply decide_eq_true
     revert h1 h2 h3
     cases Z0O h
     simp+contextual
    rw[e]
    exact gF [] Tryz.func14 [true] (Fc 4 (@Z5V h ‹_›) (Fb (((Z0O h).fault==0&&((Z0O h).page==0&&(Z0O h).addr==0))=true) Fz))
   ·have e:decide (Z0O h=⟨0,0,0⟩)=false:=decide_eq_false (fun q=>h3 (by rw[q]))
    rw[e]
    exact gF [] Tryz.func14 [true] (Fc 4 (@Z5V h ‹_›) (Fb (((Z0O h).fault==0&&((Z0O h).page==0&&(Z0O h).addr==0))=false) Fz))
  ·have e:decide (Z0O h=⟨0,0,0⟩)=false:=decide_eq_false (fun q=>h2 (by rw[q]))
   rw[e]
   exact gF [] Tryz.func14 [true] (Fc 4 (@Z5V h ‹_›) (Fb (((Z0O h).fault==0&&((Z0O h).page==0&&(Z0O h).addr==0))=false) Fz))
 ·have e:decide (Z0O h=⟨0,0,0⟩)=false:=decide_eq_false (fun q=>h1 (by rw[q]))
  rw[e]
  exact gF [] Tryz.func14 [true] (Fc 4 (@Z5V h ‹_›) (Fb (((Z0O h).fault==0&&((Z0O h).page==0&&(Z0O h).addr==0))=false) Fz))
theorem Zck(h:Heap)(refs:List Int)(hw:WOk h.words)(hg:Z0O h≠⟨0,0,0⟩):GSpec Tryz.prog 138 [h.av,Z02 refs] true (bool false) []:=by
 exact gF [] Tryz.func138 [] (Fc 9 (@Z71 h ‹_›) (Ftb 10 (!decide (Z0O h=Finding.mk 0 0 0)) Fz))
def rfsL(refs all:List Int)(i:Nat):Tg:=⟨tm 36 [(1,Z02 refs),(4,bool false),(5,Z02 all),(7,int i)],[],60⟩
theorem Zes(refs all:List Int)(i:Nat)(hl:refs.length≤1048576)(ha:all.length≤1048576)(hi:i<refs.length)(hb:refs.getD i default=0∨refs.getD i default∈all):CSpec Tryz.prog (rndF Tryz.f138 0) (rfsL refs all i).st .nrm (rfsL refs all (i+1)).st:=by
 rcases hb with hb | hb
 ·exact sF [] [] (Fl 18 wdv refs (Ftb 19 (decide ((↑i:Int)<(↑refs.length:Int))) (Fek 24 wdv refs (↑i) i (FeG 31 (refs.getD i default != 0) wdv refs (↑i) i (FcG 33 (refs.getD i default != 0) (fun hg=>by(try simp only[bs]at hg);exact @Z0X all (refs.getD i default) (by(try simp only[bs]at hg);assumption)) (Ffb 35 (refs.getD i default != 0&&!decide (refs.getD i default∈all)) (Fx 21 i Fz)))))))
 ·by_cases h0:refs.getD i default=0
  ·exact sF [] [] (Fl 18 wdv refs (Ftb 19 (decide ((↑i:Int)<(↑refs.length:Int))) (Fek 24 wdv refs (↑i) i (FeG 31 (refs.getD i default != 0) wdv refs (↑i) i (FcG 33 (refs.getD i default != 0) (fun hg=>by(try simp only[bs]at hg);exact @Z0X all (refs.getD i default) (by(try simp only[bs]at hg);assumption)) (Ffb 35 (refs.getD i default != 0&&!decide (refs.getD i default∈all)) (Fx 21 i Fz)))))))
  ·exact sF [] [] (Fl 18 wdv refs (Ftb 19 (decide ((↑i:Int)<(↑refs.length:Int))) (Fek 24 wdv refs (↑i) i (FeG 31 (refs.getD i default != 0) wdv refs (↑i) i (FcG 33 (refs.getD i default != 0) (fun hg=>by(try simp only[bs]at hg);exact @Z0X all (refs.getD i default) (by(try simp only[bs]at hg);assumption)) (Ff 35 (by simp only[bs, *,true_or,or_true,true_and,and_true,not_true_eq_false,not_false_eq_true,Bool.true_eq_false,Bool.false_eq_true]:(refs.getD i default != 0&&!decide (refs.getD i default∈all))=false) (Fx 21 i Fz)))))))
theorem ZiL(refs all:List Int)(i:Nat)(hl:refs.length≤1048576)(ha:all.length≤1048576)(hi:i<refs.length)(h0:refs.getD i default≠0)(hb:refs.getD i default∉all):CSpec Tryz.prog (rndF Tryz.f138 0) (rfsL refs all i).st .ret (Tg.st ⟨tm 36 [(4,bool false)],[],60⟩):=by
 exact sF [] [] (Fl 18 wdv refs (Ftb 19 (decide ((↑i:Int)<(↑refs.length:Int))) (Fek 24 wdv refs (↑i) i (FeG 31 (refs.getD i default != 0) wdv refs (↑i) i (FcG 33 (refs.getD i default != 0) (fun hg=>by(try simp only[bs]at hg);exact @Z0X all (refs.getD i default) (by(try simp only[bs]at hg);assumption)) (Ft 35 (by simp only[bs, *,true_or,or_true,true_and,and_true,not_true_eq_false,not_false_eq_true,Bool.true_eq_false,Bool.false_eq_true]:(refs.getD i default != 0&&!decide (refs.getD i default∈all))=true) Fz))))))
theorem ZlE(refs all:List Int):CSpec Tryz.prog (rndF Tryz.f138 0) (rfsL refs all refs.length).st (.ext 0) (Tg.st ⟨tm 36 [(4,bool false)],[],60⟩):=by
 exact sF [] [] (Fl 18 wdv refs (Ffb 19 (decide ((↑refs.length:Int)<(↑refs.length:Int))) Fz))
def rfsB(refs all:List Int)(i:Nat):Bool:=decide (refs.getD i default≠0∧refs.getD i default∉all)
def Z0k(h:Heap)(refs:List Int):Bool:=decide (Z0O h=⟨0,0,0⟩)&&((List.range refs.length).find? (rfsB refs (Z08 h).1)).isNone
section
variable (refs all:List Int) (hl:refs.length≤1048576) (ha:all.length≤1048576)
include hl ha
theorem Zli(hb:(List.range refs.length).find? (rfsB refs all)=none):CSpec Tryz.prog (blkF Tryz.f138 0) (Tg.st ⟨tm 36 [(1,Z02 refs),(4,bool false),(5,Z02 all),(7,int 0)],[],60⟩) .nrm (Tg.st ⟨tm 36 [(4,bool false)],[],60⟩):=by
 refine Z0c (S:=fun k=>(rfsL refs all k).st) refs.length (by kernel_rfl) (fun k hk=>Zes refs all k hl ha hk ?_) (ZlE refs all)
 have:=List.find?_eq_none.1 hb k (List.mem_range.2 hk)
 simp only[rfsB,decide_eq_true_eq,not_and,Decidable.not_not]at this
 by_cases h:refs.getD k default=0
 ·exact Or.inl h
 ·exact Or.inr (this h)
theorem ZiZ(i:Nat)(hb:(List.range refs.length).find? (rfsB refs all)=some i):CSpec Tryz.prog (blkF Tryz.f138 0) (Tg.st ⟨tm 36 [(1,Z02 refs),(4,bool false),(5,Z02 all),(7,int 0)],[],60⟩) .ret (Tg.st ⟨tm 36 [(4,bool false)],[],60⟩):=by
 obtain⟨h1,h2,h3⟩:=List.find?_range_eq_some.1 hb
 have h2:=List.mem_range.1 h2
 simp only[rfsB,decide_eq_true_eq]at h1
 refine Z0Q (S:=fun k=>(rfsL refs all k).st) i (by kernel_rfl) (fun m hm'=>Zes refs all m hl ha (by omega) ?_) (ZiL refs all i hl ha h2 h1.1 h1.2)
 have:=h3 m hm'
 simp only[rfsB,Bool.not_eq_true',decide_eq_false_iff_not,not_and,Decidable.not_not]at this
 by_cases h:refs.getD m default=0
 ·exact Or.inl h
 ·exact Or.inr (this h)
end
theorem Z1O(h:Heap)(refs:List Int)(hw:WOk h.words)(hl:refs.length≤1048576):GSpec Tryz.prog 138 [h.av,Z02 refs] true (bool (Z0k h refs)) []:=by
 have ho:=Z3v h
 by_cases hg:Z0O h=⟨0,0,0⟩
 ·cases hb:(List.range refs.length).find? (rfsB refs (Z08 h).1)with
  | none =>
   have e:Z0k h refs=true:=by simp[Z0k,hg,hb]
   rw[e]
   exact gF [] Tryz.func138 [] (Fc 9 (@Z71 h ‹_›) (Ffb 10 (!decide (Z0O h=Finding.mk 0 0 0)) (Fc 13 (@Z3j h ‹_›) (Fu (@Zli refs ((Z08 h).fst) ‹_› (by omega) ‹_›) Fz))))
  | some i =>
   have e:Z0k h refs=false:=by simp[Z0k,hg,hb]
   rw[e]
   exact gF [] Tryz.func138 [] (Fc 9 (@Z71 h ‹_›) (Ffb 10 (!decide (Z0O h=Finding.mk 0 0 0)) (Fc 13 (@Z3j h ‹_›) (Fu (@ZiZ refs ((Z08 h).fst) ‹_› (by omega) i hb) Fz))))
 ·have e:Z0k h refs=false:=by simp[Z0k,hg]
  rw[e]
  exact Zck h refs hw hg
structure Rep where
 copied:Int
 kept:Int
 filled:Int
 freed:Int
 cleared:Int
 steps:Int
 deriving Inhabited
def Rep.cells(r:Rep):List AV:=[int r.copied,int r.kept,int r.filled,int r.freed,int r.cleared,int r.steps]
structure Work where
 heap:Heap
 old:List Int
 taken:List Int
 queue:List Int
 scanned:Int
 rep:Rep
 deriving Inhabited
def Work.cells(w:Work):List AV:=w.heap.cells++[Z02 w.old,Z0T w.taken,Z02 w.queue,int w.scanned]++w.rep.cells
def Work.av(w:Work):AV:=.ag w.cells
def noWork:Work:=⟨noHeap,[],[],[],0,⟨0,0,0,0,0,0⟩⟩
def Z0p(w:Int):Int×Bool:=if w%4=2∧w/4<4294967296 then(w/4,true)else(0,false)
theorem Z2F(w:Int)(h0:0≤w)(h1:w≤18446744073709551615):GSpec Tryz.prog 161 [u64 w] true (.tu [u64 (Z0p w).1,bool (Z0p w).2]) []:=by
 have Q0 {h_ c_ p_} (r_:Fq h_ c_ p_):=Fg 5 (by exact Int.tmod_eq_emod_of_nonneg (by omega):w.tmod 4=w%4) (Fa (by decide:(4:Int)≠0) (Fa (by intro hg;(try simp only[bs]at hg);exact Z6I rfl (by decide):(!w%(4:Int) != 2)=true→w.fdiv (2^min (Int.toNat 2) 64)=w/4) (Fa (by intro hg;(try simp only[bs]at hg);omega:(!w%(4:Int) != 2)=true→(0:Int)≤2) r_)))
 rcases bb (w%(4:Int) != 2||decide (4294967296≤w/4))with hc0 | hc0<;>have hc0p:=hc0<;>simp only[bs]at hc0p
 ·exact gF [] Tryz.func161 [false,false,false,true] (Fh 9 [.int (w/4)] (Q0 (Ft 11 hc0 (Fa (by(simp only[Z0p];(repeat' split)<;>first | rfl | omega | (exfalso;omega) | simp_all):0=(Z0p w).fst) (Fa (by(simp only[Z0p];(repeat' split)<;>first | rfl | omega | (exfalso;omega) | simp_all):false=(Z0p w).snd) Fz)))))
 ·obtain⟨hc0pa,hc0pb⟩:=hc0p
  exact gF [] Tryz.func161 [false,false,false,true] (Fh 13 [.int (w/4)] (Q0 (Ff 11 hc0 (Fg 9 (by exact Z6I rfl (by decide):w.fdiv (2^min (Int.toNat 2) 64)=w/4) (Fo ((0:Int)≤2) (Fa (by(simp only[Z0p];(repeat' split)<;>first | rfl | omega | (exfalso;omega) | simp_all):w/4=(Z0p w).fst) (Fa (by(simp only[Z0p];(repeat' split)<;>first | rfl | omega | (exfalso;omega) | simp_all):true=(Z0p w).snd) Fz)))))))
theorem ZcK(a:Int)(h0:0≤a)(h1:a<4294967296):GSpec Tryz.prog 170 [u64 a] true (.tu [u64 (4*a+2),int 0]) []:=by
 exact gF [] Tryz.func170 [] (Ffb 5 (decide (4294967296≤a)) (Fv 7 (4*a) (Fv 8 (4*a+2) Fz)))
def Z1h(w:Work)(i:Int):Bool:=decide (0≤i∧i<w.heap.pages.length∧(w.heap.pages.getD i.toNat default).kind=1∧(w.heap.pages.getD i.toNat default).space≠w.heap.space∧i∉w.taken)
def Work.keep(w:Work)(r:Int):Work:=⟨w.heap,w.old,w.taken,w.queue++[r],w.scanned,⟨w.rep.copied,w.rep.kept+1,w.rep.filled,w.rep.freed,w.rep.cleared,w.rep.steps⟩⟩
def Z0R(w:Work):Int:=w.taken.getD ((w.taken.length:Int)-1).toNat default
def Z4r(w:Work)(n:Int):Prop:=0<w.taken.length∧(w.heap.pages.getD (Z0R w).toNat default).used+n≤w.heap.conf.pw
instance (w:Work) (n:Int):Decidable (Z4r w n):=by unfold Z4r;infer_instance
def Z0t(w:Work):Int:=first w.heap.pages 1
def Z2w(w:Work):List Page:=Z2D ⟨w.heap.conf,w.heap.words,w.heap.pages,1-w.heap.space,w.heap.bump⟩
def Work.place(w:Work)(n:Int):Work×Int×Bool :=
 if Z4r w n then(⟨⟨w.heap.conf,w.heap.words,Z21 w.heap.pages (Z0R w).toNat n,w.heap.space,w.heap.bump⟩,w.old,w.taken,w.queue,w.scanned,w.rep⟩,4096+Z0R w*w.heap.conf.pw+(w.heap.pages.getD (Z0R w).toNat default).used,true)
 else if 0≤Z0t w then(⟨⟨w.heap.conf,w.heap.words,Z21 (Z2w w) (Z0t w).toNat n,w.heap.space,w.heap.bump⟩,w.old,w.taken++[Z0t w],w.queue,w.scanned,w.rep⟩,4096+Z0t w*w.heap.conf.pw,true)
 else(noWork,0,false)
def Zbf(s:Int)(p:Page):Page:=⟨p.kind,s,p.used,p.pins⟩
def Z0F(l:List Page)(i m:Nat)(s:Int):List Page:=(List.range l.length).map fun j=>if i≤j∧j≤i+m then Zbf s (l.getD j default)else l.getD j default
def Z0w(l:List Page)(i:Nat):Nat:=((l.drop (i+1)).takeWhile fun p=>p.kind==3).length
def Work.flip(w:Work)(i:Nat):Work:=⟨⟨w.heap.conf,w.heap.words,Z0F w.heap.pages i (Z0w w.heap.pages i) (1-w.heap.space),w.heap.space,w.heap.bump⟩,w.old,w.taken,w.queue,w.scanned,w.rep⟩
def Work.copy(w:Work)(r a n:Int):Work:=⟨⟨w.heap.conf,(Z0E (moveA w.heap.words a r n).1 r (4*a+2)).1,w.heap.pages,w.heap.space,w.heap.bump⟩,w.old,w.taken,w.queue++[a],w.scanned,⟨w.rep.copied+1,w.rep.kept,w.rep.filled,w.rep.freed,w.rep.cleared,w.rep.steps⟩⟩
def hdW(w:Work)(r:Int):Header:=(decodeH (loadA w.heap.words r).1).1
def Z1b(w:Work)(r:Int):Nat:=(ofA w.heap.conf r).1.toNat
def Work.fwd(w:Work)(r:Int):Work×Int×Int :=
 if r=0∨r∈w.queue then(w,r,0)
 else if r∉w.old then(noWork,0,19)
 else if(Z0p (loadA w.heap.words r).1).2=true then(w,(Z0p (loadA w.heap.words r).1).1,0)
 else if(ofA w.heap.conf r).2.2≠0 then(noWork,0,19)
 else if Z1h w (ofA w.heap.conf r).1=true then(w.keep r,r,0)
 else if(w.heap.pages.getD (Z1b w r) default).kind=2 then((w.flip (Z1b w r)).keep r,r,0)
 else if(w.place (sizeH (hdW w r))).2.2=false then(noWork,0,3)
 else((w.place (sizeH (hdW w r))).1.copy r (w.place (sizeH (hdW w r))).2.1 (sizeH (hdW w r)),(w.place (sizeH (hdW w r))).2.1,0)
def Za8(pw:Int)(p:Page):Nat:=if p.kind=0 then pw.toNat else(pw-p.used).toNat
def Z7t(pw:Int)(l:List Page):Nat:=(l.map (Za8 pw)).sum
def Zcf(old q:List Int):Nat:=(old.filter fun x=>decide (x∉q)).length
def muW(w:Work):Nat:=Zcf w.old w.queue+Z7t w.heap.conf.pw w.heap.pages
structure WkOk (w:Work):Prop where
 words:WOk w.heap.words
 wl:w.heap.words.length≤4096
 conf:Z07 w.heap.conf=true
 pl:(w.heap.pages.length:Int)=w.heap.conf.pg
 sp:w.heap.space=0∨w.heap.space=1
 ol:w.old.length≤524288
 o:∀ x∈w.old,0≤x∧x≤8192
 tk:∀ x∈w.taken,0≤x∧x<w.heap.pages.length∧(w.heap.pages.getD x.toNat default).kind=1
 tl:w.taken.length≤w.queue.length
 q:∀ x∈w.queue,0≤x∧x≤16384
 us:∀ j,j<w.heap.pages.length→0≤(w.heap.pages.getD j default).used∧(w.heap.pages.getD j default).used≤1024
 mu:w.queue.length+muW w≤1000000
 sc:0≤w.scanned∧w.scanned≤w.queue.length
 rk:0≤w.rep.kept∧0≤w.rep.copied∧w.rep.kept+w.rep.copied≤w.queue.length
 rs:0≤w.rep.steps∧w.rep.steps≤1000*w.scanned
 r0:w.rep.filled=0∧w.rep.freed=0∧w.rep.cleared=0
theorem ZbS(pw:Int)(p:Page):∀ (l:List Page) (i:Nat),i<l.length→Z7t pw (l.set i p)+Za8 pw (l.getD i default)=Z7t pw l+Za8 pw p
 | [],i,h=>by simp at h
 | x::l,0,_=>by simp[Z7t];omega
 | x::l,i+1,h=>by
  have:=ZbS pw p l i (by simpa using h)
  simp only[Z7t,List.set_cons_succ,List.map_cons,List.sum_cons,List.getD_cons_succ]at this ⊢
  omega
theorem Z86(old q:List Int)(r:Int):(old.filter fun x=>decide (x∉q++[r]))=(old.filter fun x=>decide (x∉q)).filter fun x=>decide (x≠r):=by
 rw[List.filter_filter]
 refine List.filter_congr fun x _=>?_
 by_cases h3:x∈q<;>by_cases h4:x=r<;>simp[h3,h4]
theorem Zi3(old q:List Int)(r:Int):Zcf old (q++[r])≤Zcf old q:=by
 unfold Zcf
 rw[Z86]
 exact List.length_filter_le _ _
theorem ZiG{old q:List Int}{r:Int}(h1:r∈old)(h2:r∉q):Zcf old (q++[r])<Zcf old q:=by
 unfold Zcf
 rw[Z86]
 exact List.length_filter_lt_length_iff_exists.2 ⟨r,List.mem_filter.2 ⟨h1,by simpa using h2⟩,by simp⟩
theorem Z89{l:List Page}{i:Nat}{p q:Page}(h:i<l.length):tookP l i 1 p q=l.set i p:=by
 unfold tookP
 have e:wr l (List.replicate 1 q) i 1=l.set i q:=by
  have:=ZaO (ws:=l) (l:=List.replicate 1 q) (i:=i) (k:=0) (by simp;omega) (by simp) q
  rw[Z8t]at this
  simpa using this.symm
 rw[e,List.set_set]
theorem Z0q{l:List Page}{i j:Nat}{p:Page}(h:i<l.length):(l.set i p).getD j default=if i=j then p else l.getD j default:=by
 simp only[List.getD_eq_getElem?_getD,List.getElem?_set,h]
 split
 ·rename_i e;subst e;simp
 ·rfl
theorem Z1v(l:List Page)(i m:Nat)(s:Int):(Z0F l i m s).length=l.length:=by simp[Z0F]
theorem Z1w{l:List Page}{i m:Nat}{s:Int}{j:Nat}(h:j<l.length):(Z0F l i m s).getD j default=if i≤j∧j≤i+m then Zbf s (l.getD j default)else l.getD j default:=by
 simp[Z0F,h,List.getD_eq_getElem?_getD]
theorem Zf1(pw:Int)(l:List Page)(i m:Nat)(s:Int):Z7t pw (Z0F l i m s)=Z7t pw l:=by
 unfold Z7t
 congr 1
 refine List.ext_getElem (by simp[Z0F]) fun j h1 h2=>?_
 have h:j<l.length:=by simpa using h2
 simp only[Z0F,List.map_map,List.getElem_map,List.getElem_range,Function.comp]
 have e:l.getD j default=l[j]:=by simp[List.getD_eq_getElem?_getD,h]
 rw[e]
 split
 ·rfl
 ·rfl
abbrev sZ(w:Work)(r:Int):Int:=sizeH (decodeH (loadA w.heap.words r).fst).fst
abbrev lT(w:Work):Int:=w.taken.getD ((↑w.taken.length:Int)-1).toNat default
theorem Zbj(w:Work)(r:Int)(hw:WkOk w):GSpec Tryz.prog 167 [w.av,u64 r] false (w.keep r).av []:=by
 have h1:=hw.mu
 have h2:=hw.rk
 exact gF [] Tryz.func167 [] (Fh 11 [.els (List.map wdv (w.queue++[r]))] (Fs 5 (List.map wdv []) (Fa (by(simp[Work.keep, *];omega):(List.map wdv []).length+(List.map wdv w.queue).length≤2^30) (Fs 8 (List.map wdv w.queue) (Fs 10 (List.map wdv [r]) (Fa (by(simp[Work.keep, *];omega):(List.map wdv w.queue).length+(List.map wdv [r]).length≤2^30) (Fa (by simp[Work.keep,List.map_take,List.map_drop,List.map_set,List.map_append,wdv,idv]:List.map wdv w.queue++List.map wdv [r]=List.map wdv (w.queue++[r])) (Fi 16 (w.rep.kept+1) Fz))))))))
def tknL(w:Work)(x:Int)(i:Nat):Tg:=⟨tm 20 [(1,int x),(2,.pt 8002 0 0),(4,bool false),(5,int i)],[(8002,.box 176 w.cells)],60⟩
theorem Ze9(w:Work)(x:Int)(i:Nat)(hl:w.taken.length≤1048576)(hi:i<w.taken.length)(hv:¬ w.taken.getD i default=x):CSpec Tryz.prog (rndF Tryz.f172 0) (tknL w x i).st .nrm (tknL w x (i+1)).st:=by
 exact sF [] [] (Fl 9 idv w.taken (Ftb 10 (decide ((↑i:Int)<(↑w.taken.length:Int))) (Fek 16 idv w.taken (↑i) i (Ffb 19 (w.taken.getD i default==x) (Fx 12 i Fz)))))
theorem ZjN(w:Work)(x:Int)(i:Nat)(hl:w.taken.length≤1048576)(hi:i<w.taken.length)(hv:w.taken.getD i default=x):CSpec Tryz.prog (rndF Tryz.f172 0) (tknL w x i).st .ret (Tg.st ⟨tm 20 [(4,bool true)],[],60⟩):=by
 exact sF [] [] (Fl 9 idv w.taken (Ftb 10 (decide ((↑i:Int)<(↑w.taken.length:Int))) (Fek 16 idv w.taken (↑i) i (Ftb 19 (w.taken.getD i default==x) Fz))))
theorem ZlR(w:Work)(x:Int):CSpec Tryz.prog (rndF Tryz.f172 0) (tknL w x w.taken.length).st (.ext 0) (Tg.st ⟨tm 20 [],[],60⟩):=by
 exact sF [] [] (Fl 9 idv w.taken (Ffb 10 (decide ((↑w.taken.length:Int)<(↑w.taken.length:Int))) Fz))
theorem Zl6(w:Work)(x:Int)(hl:w.taken.length≤1048576)(h:x∉w.taken):CSpec Tryz.prog (blkF Tryz.f172 0) (Tg.st ⟨tm 20 [(1,int x),(2,.pt 8002 0 0),(4,bool false),(5,int 0)],[(8002,.box 176 w.cells)],60⟩) .nrm (Tg.st ⟨tm 20 [],[],60⟩) :=
 Z0c (S:=fun i=>(tknL w x i).st) w.taken.length (by kernel_rfl) (fun i hi=>Ze9 w x i hl hi fun e=>h (getD_mem_iff.2 ⟨i,hi,e⟩)) (ZlR w x)
theorem Zib(w:Work)(x:Int)(hl:w.taken.length≤1048576)(h:x∈w.taken):CSpec Tryz.prog (blkF Tryz.f172 0) (Tg.st ⟨tm 20 [(1,int x),(2,.pt 8002 0 0),(4,bool false),(5,int 0)],[(8002,.box 176 w.cells)],60⟩) .ret (Tg.st ⟨tm 20 [(4,bool true)],[],60⟩):=by
 obtain⟨i,h1,h2⟩:=ZfY (getD_mem_iff.1 h)
 exact Z0Q (S:=fun i=>(tknL w x i).st) i (by kernel_rfl) (fun j hj=>Ze9 w x j hl (by omega) fun e=>by have:=h2 j ⟨by omega,e⟩;omega) (ZjN w x i hl h1.1 h1.2)
theorem ZeR(w:Work)(i:Int)(hl:w.taken.length≤1048576):GSpec Tryz.prog 172 [w.av,int i] true (bool (decide (i∈w.taken))) []:=by
 by_cases h:i∈w.taken
 ·rw[decide_eq_true h]
  exact gF [] Tryz.func172 [] (Fu (@Zib w i ‹_› ‹_›) Fz)
 ·rw[decide_eq_false h]
  exact gF [] Tryz.func172 [] (Fu (@Zl6 w i ‹_› ‹_›) Fz)
theorem Z1T(w:Work)(i:Int)(hl:w.taken.length≤1048576)(hp:w.heap.pages.length≤1048576):GSpec Tryz.prog 162 [w.av,int i] true (bool (Z1h w i)) []:=by
 rcases bb (decide (i<0)||decide ((↑w.heap.pages.length:Int)≤i))with hc0 | hc0<;>have hc0p:=hc0<;>simp only[bs]at hc0p
 ·exact gF [] Tryz.func162 [false,false,false,false,false,false,true] (FlG 13 (!decide (i<0)) Page.dv w.heap.pages (Ft 15 hc0 (Fa (by(simp[Z1h, *];omega):false=Z1h w i) Fz)))
 ·obtain⟨hc0pa,hc0pb⟩:=hc0p
  exact gF [] Tryz.func162 [false,false,false,false,false,false,false,false,false,false,false,false,false,false,false,false,true] (FlG 13 (!decide (i<0)) Page.dv w.heap.pages (Ff 15 hc0 (Fe 20 Page.dv w.heap.pages i (FcG 36 ((w.heap.pages.getD i.toNat default).kind==1&&(w.heap.pages.getD i.toNat default).space != w.heap.space) (fun hg=>by(try simp only[bs]at hg);exact @ZeR w i (by(try simp only[bs]at hg);assumption)) (Fa (by grind[Z1h]:((w.heap.pages.getD i.toNat default).kind==1&&(w.heap.pages.getD i.toNat default).space != w.heap.space&&!decide (i∈w.taken))=Z1h w i) Fz)))))
theorem Zel(w:Work)(a:Int)(hw:WkOk w)(h0:0≤a∧a≤18446744073709551615):GSpec Tryz.prog 163 [w.av,u64 a] true (hdW w a).av []:=by
 have h1:=hw.wl
 have h2:=Z0P hw.words a
 exact gF [] Tryz.func163 [] (Fc 14 (@Z1K w.heap.words a (by omega) ‹_›) (Fc 19 (@Z2E ((loadA w.heap.words a).fst) (by omega) (by omega)) Fz))
theorem Z4j{ws l:List Int}(h:WOk ws)(hl:WOk l)(a:Int):WOk (Z0b ws a l).1:=by
 unfold Z0b
 split
 ·intro x hx
  simp only[spl,List.mem_append]at hx
  rcases hx with(hx | hx) | hx
  ·exact h x (List.mem_of_mem_take hx)
  ·exact hl x hx
  ·exact h x (List.mem_of_mem_drop hx)
 ·exact Z6C
theorem Z7n(ws l:List Int)(a:Int):(Z0b ws a l).1.length≤ws.length:=by
 unfold Z0b
 split
 ·simp only
  rw[Z3e (by omega)]
  exact Nat.le_refl _
 ·simp
theorem Z7D{ws:List Int}(h:WOk ws){v:Int}(hv:0≤v∧v≤18446744073709551615)(a:Int):WOk (Z0E ws a v).1:=Z4j h (by intro x hx;simp at hx;subst hx;exact hv) a
theorem ZaV(ws:List Int)(a v:Int):(Z0E ws a v).1.length≤ws.length:=Z7n ws [v] a
theorem Zij{ws:List Int}(h:WOk ws)(a n:Int):WOk (Z1c ws a n).1:=by
 unfold Z1c
 repeat' split
 ·exact Z6C
 ·intro x hx;exact h x (List.mem_of_mem_drop (List.mem_of_mem_take hx))
 ·exact Z6C
theorem ZiB{ws:List Int}(h:WOk ws)(a b n:Int):WOk (moveA ws a b n).1:=by
 unfold moveA
 split
 ·exact Z6C
 ·exact Z4j h (Zij h b n) a
theorem ZdH(ws:List Int)(a b n:Int):(moveA ws a b n).1.length≤ws.length:=by
 unfold moveA
 split
 ·simp
 ·exact Z7n _ _ _
theorem WkOk.withWords{w:Work}(hw:WkOk w){l:List Int}(h:WOk l)(hl:l.length≤4096):WkOk ⟨⟨w.heap.conf,l,w.heap.pages,w.heap.space,w.heap.bump⟩,w.old,w.taken,w.queue,w.scanned,w.rep⟩ :=
 ⟨h,hl,hw.conf,hw.pl,hw.sp,hw.ol,hw.o,hw.tk,hw.tl,hw.q,hw.us,hw.mu,hw.sc,hw.rk,hw.rs,hw.r0⟩
theorem Zgm{w:Work}(hw:WkOk w){r:Int}(h1:r∈w.old)(h2:r∉w.queue):WkOk (w.keep r):=by
 have hm:=hw.mu
 have hl:=ZiG h1 h2
 have ho:=hw.o r h1
 have hs:=hw.sc
 have hk:=hw.rk
 have ht:=hw.tl
 unfold muW at hm
 refine⟨hw.words,hw.wl,hw.conf,hw.pl,hw.sp,hw.ol,hw.o,hw.tk, ?_, ?_,hw.us, ?_, ?_, ?_,hw.rs,hw.r0⟩
 ·simp only[Work.keep,List.length_append,List.length_singleton];omega
 ·intro x hx
  simp only[Work.keep,List.mem_append,List.mem_singleton]at hx
  rcases hx with hx | rfl
  ·exact hw.q x hx
  ·omega
 ·simp only[muW,Work.keep,List.length_append,List.length_singleton];omega
 ·simp only[Work.keep,List.length_append,List.length_singleton];omega
 ·simp only[Work.keep,List.length_append,List.length_singleton];omega
theorem Zh9{w:Work}(hw:WkOk w)(i:Nat):WkOk (w.flip i):=by
 refine⟨hw.words,hw.wl,hw.conf, ?_,hw.sp,hw.ol,hw.o, ?_,hw.tl,hw.q, ?_, ?_,hw.sc,hw.rk,hw.rs,hw.r0⟩
 ·simp only[Work.flip,Z1v];exact hw.pl
 ·intro x hx
  have:=hw.tk x hx
  simp only[Work.flip,Z1v]
  refine⟨this.1,this.2.1, ?_⟩
  rw[Z1w (by omega)]
  split
  ·exact this.2.2
  ·exact this.2.2
 ·intro j hj
  simp only[Work.flip,Z1v]at hj ⊢
  have:=hw.us j hj
  rw[Z1w hj]
  split
  ·exact this
  ·exact this
 ·have:=hw.mu
  simp only[muW,Work.flip,Zf1]at this ⊢
  exact this
theorem Z1x{w:Work}(h:0<w.taken.length):Z0R w∈w.taken:=by
 unfold Z0R
 exact getD_mem_iff.2 ⟨((w.taken.length:Int)-1).toNat,by omega,rfl⟩
theorem Z5w{w:Work}{n:Int}(hw:WkOk w)(hn:1≤n)(h:(w.place n).2.2=true) :
  ∃ (i:Nat) (p:Page) (t:List Int),i<w.heap.pages.length∧p.kind=1∧0≤p.used∧p.used≤1024+n∧(p.used≤64∨p.used=n)∧Za8 w.heap.conf.pw p+1≤Za8 w.heap.conf.pw (w.heap.pages.getD i default)∧t.length≤w.taken.length+1∧(∀ x∈t,x∈w.taken∨x=(i:Int))∧4096≤(w.place n).2.1∧(w.place n).2.1≤12288 ∧
  (w.place n).1=⟨⟨w.heap.conf,w.heap.words,w.heap.pages.set i p,w.heap.space,w.heap.bump⟩,w.old,t,w.queue,w.scanned,w.rep⟩:=by
 have hb:=validB_iff.1 hw.conf
 have hpl:=hw.pl
 by_cases hf:Z4r w n
 ·have e:w.place n=(⟨⟨w.heap.conf,w.heap.words,Z21 w.heap.pages (Z0R w).toNat n,w.heap.space,w.heap.bump⟩,w.old,w.taken,w.queue,w.scanned,w.rep⟩,4096+Z0R w*w.heap.conf.pw+(w.heap.pages.getD (Z0R w).toNat default).used,true):=by rw[Work.place,if_pos hf]
  unfold Z4r at hf
  have hm:=hw.tk _ (Z1x hf.1)
  have hu:=hw.us (Z0R w).toNat (by omega)
  have ha:=Z2C hw.conf hm.1 (by omega)
  refine⟨(Z0R w).toNat,⟨(w.heap.pages.getD (Z0R w).toNat default).kind,(w.heap.pages.getD (Z0R w).toNat default).space,(w.heap.pages.getD (Z0R w).toNat default).used+n,(w.heap.pages.getD (Z0R w).toNat default).pins⟩,w.taken,by omega,hm.2.2,by simp only;omega,by simp only;omega,Or.inl (by simp only;omega), ?_,by omega,fun x hx=>Or.inl hx, ?_, ?_, ?_⟩
  ·have hk:=hm.2.2
   simp only[Za8,hk,if_neg (show ¬ (1:Int)=0 by decide)]
   omega
  ·rw[e];simp only;omega
  ·rw[e];simp only;omega
  ·rw[e];rfl
 ·by_cases hg:0≤Z0t w
  ·have e:w.place n=(⟨⟨w.heap.conf,w.heap.words,Z21 (Z2w w) (Z0t w).toNat n,w.heap.space,w.heap.bump⟩,w.old,w.taken++[Z0t w],w.queue,w.scanned,w.rep⟩,4096+Z0t w*w.heap.conf.pw,true):=by rw[Work.place,if_neg hf,if_pos hg]
   obtain⟨f1,f2,f3,f4⟩:=Z2y (h:=⟨w.heap.conf,w.heap.words,w.heap.pages,1-w.heap.space,w.heap.bump⟩) (by have:=hw.sp;simp only;omega) hg
   obtain⟨g1,g2,g3⟩:=Z1z hg
   simp only at f1 f2 f3 f4
   have hi:(Z0t w).toNat<w.heap.pages.length:=by unfold Z0t;omega
   have ha:=Z2C hw.conf hg (by unfold Z0t;omega)
   have hk:(w.heap.pages.getD (Z0t w).toNat default).kind=0:=by
    have:=freeK_iff.1 g3 0 (by decide)
    simpa[Z0t]using this
   have hq:Z21 (Z2w w) (Z0t w).toNat n=w.heap.pages.set (Z0t w).toNat ⟨1,1-w.heap.space,n,0⟩:=by
    unfold Z21
    have e4:(Z2w w).getD (Z0t w).toNat default=⟨1,1-w.heap.space,0,0⟩:=f4
    rw[e4]
    have e1:Z2w w=w.heap.pages.set (Z0t w).toNat ⟨1,1-w.heap.space,0,0⟩:=by
     have:Z2w w=tookP w.heap.pages (Z0t w).toNat 1 ⟨1,1-w.heap.space,0,0⟩ ⟨0,0,0,0⟩:=f1
     rw[this,Z89 hi]
    rw[e1,List.set_set]
    simp
   refine⟨(Z0t w).toNat,⟨1,1-w.heap.space,n,0⟩,w.taken++[Z0t w],hi,rfl,by simp only;omega,by simp only;omega,Or.inr rfl, ?_,by simp, ?_, ?_, ?_, ?_⟩
   ·simp only[Za8,hk]
    simp;omega
   ·intro x hx
    simp only[List.mem_append,List.mem_singleton]at hx
    rcases hx with hx | rfl
    ·exact Or.inl hx
    ·exact Or.inr (by omega)
   ·rw[e];simp only;omega
   ·rw[e];simp only;omega
   ·rw[e,hq]
  ·rw[Work.place,if_neg hf,if_neg hg]at h
   simp at h
theorem Zlv{w:Work}(hw:WkOk w){r n:Int}(hr:r∈w.old)(hq:r∉w.queue)(hn:1≤n∧n≤256)(h:(w.place n).2.2=true):WkOk ((w.place n).1.copy r (w.place n).2.1 n):=by
 obtain⟨i,p,t,h1,h2,h3,h4,h4',h5,h6,h7,h8,h9,e⟩:=Z5w hw hn.1 h
 generalize (w.place n).2.1=a at h8 h9
 rw[e]
 have hm:=hw.mu
 have hs:=ZbS w.heap.conf.pw p w.heap.pages i h1
 have hsc:=hw.sc
 have hk:=hw.rk
 have ht:=hw.tl
 have hl:=Zi3 w.old w.queue a
 unfold muW at hm
 have w1:=ZiB hw.words a r n
 have l1:=ZdH w.heap.words a r n
 have l2:=ZaV (moveA w.heap.words a r n).1 r (4*a+2)
 have l0:=hw.wl
 refine⟨Z7D w1 (by omega) r, ?_,hw.conf, ?_,hw.sp,hw.ol,hw.o, ?_, ?_, ?_, ?_, ?_, ?_, ?_,hw.rs,hw.r0⟩
 ·simp only[Work.copy];omega
 ·simp only[Work.copy,List.length_set];exact hw.pl
 ·intro x hx
  simp only[Work.copy,List.length_set]at hx ⊢
  rcases h7 x hx with hx | hx
  ·have:=hw.tk x hx
   refine⟨this.1,this.2.1, ?_⟩
   rw[Z0q h1]
   split
   ·exact h2
   ·exact this.2.2
  ·subst hx
   refine⟨by omega,by omega, ?_⟩
   rw[Z0q h1,if_pos (by simp)]
   exact h2
 ·simp only[Work.copy,List.length_append,List.length_singleton];omega
 ·intro x hx
  simp only[Work.copy,List.mem_append,List.mem_singleton]at hx
  rcases hx with hx | rfl
  ·exact hw.q x hx
  ·omega
 ·intro j hj
  simp only[Work.copy,List.length_set]at hj ⊢
  rw[Z0q h1]
  split
  ·omega
  ·exact hw.us j hj
 ·simp only[muW,Work.copy,List.length_append,List.length_singleton];omega
 ·simp only[Work.copy,List.length_append,List.length_singleton];omega
 ·simp only[Work.copy,List.length_append,List.length_singleton];omega
theorem Z65{v:Int}(h:0≤v):0≤(Z0p v).1∧(Z0p v).1≤4294967295:=by
 unfold Z0p
 split<;>simp only<;>omega
theorem Z2e(v:Int):Z0i (decodeH v).1=true:=by
 cases e:(decodeH v).2 with
 | true=>exact Z6A e
 | false =>
  unfold decodeH at e ⊢
  split
  ·rename_i hc;rw[if_pos hc]at e;cases e
  ·decide
theorem Z5L(w:Work)(r:Int):1≤sizeH (hdW w r)∧sizeH (hdW w r)≤256:=by
 have hv:Z0i (hdW w r)=true:=Z2e _
 have:=validH_iff.1 hv
 rw[sizeH,if_pos hv]
 omega
theorem Zg1{w:Work}(hw:WkOk w)(r:Int)(e:(w.fwd r).2.2=0):WkOk (w.fwd r).1∧0≤(w.fwd r).2.1∧(w.fwd r).2.1≤4294967296∧w.queue.length≤(w.fwd r).1.queue.length∧(w.fwd r).1.scanned=w.scanned∧(w.fwd r).1.rep.steps=w.rep.steps:=by
 have hv:=Z0P hw.words r
 have ht:=Z65 hv.1
 unfold Work.fwd at e ⊢
 split at e
 ·rename_i c1
  rw[if_pos c1]
  refine⟨hw, ?_, ?_,Nat.le_refl _,rfl,rfl⟩
  ·rcases c1 with c1 | c1
   ·simp only;omega
   ·exact(hw.q r c1).1
  ·rcases c1 with c1 | c1
   ·simp only;omega
   ·have:=hw.q r c1;simp only;omega
 ·rename_i c1
  rw[if_neg c1]
  have c1':r∉w.queue:=fun h=>c1 (Or.inr h)
  split at e
  ·simp at e
  ·rename_i c2
   rw[if_neg c2]
   have c2':r∈w.old:=Decidable.not_not.1 c2
   have ho:=hw.o r c2'
   split at e
   ·rename_i c3
    rw[if_pos c3]
    exact⟨hw,ht.1,by simp only;omega,Nat.le_refl _,rfl,rfl⟩
   ·rename_i c3
    rw[if_neg c3]
    split at e
    ·simp at e
    ·rename_i c4
     rw[if_neg c4]
     split at e
     ·rename_i c5
      rw[if_pos c5]
      exact⟨Zgm hw c2' c1',ho.1,by simp only;omega,by simp[Work.keep],rfl,rfl⟩
     ·rename_i c5
      rw[if_neg c5]
      split at e
      ·rename_i c6
       rw[if_pos c6]
       exact⟨Zgm (Zh9 hw _) c2' c1',ho.1,by simp only;omega,by simp[Work.keep,Work.flip],rfl,rfl⟩
      ·rename_i c6
       rw[if_neg c6]
       split at e
       ·simp at e
       ·rename_i c7
        rw[if_neg c7]
        have c7':(w.place (sizeH (hdW w r))).2.2=true:=by simpa using c7
        have hz:=Z5L w r
        obtain⟨i,p,t,h1,h2,h3,h4,h4',h5,h6,h7,h8,h9,ee⟩:=Z5w hw hz.1 c7'
        refine⟨Zlv hw c2' c1' hz c7', ?_, ?_, ?_, ?_, ?_⟩
        ·simp only;omega
        ·simp only;omega
        ·simp only[Work.copy];rw[ee];simp
        ·simp only[Work.copy];rw[ee]
        ·simp only[Work.copy];rw[ee]
theorem Z9o(w:Work)(n:Int)(hw:WkOk w)(hn:1≤n∧n≤256):GSpec Tryz.prog 168 [w.av,int n] false (.tu [(w.place n).1.av,u64 (w.place n).2.1,bool (w.place n).2.2]) []:=by
 have o1:=hw.conf
 have hb:=validB_iff.1 o1
 have hpl:=hw.pl
 have hmu:=hw.mu
 have htl:=hw.tl
 have hr:=Z5z w.heap.pages 1
 by_cases hf:Z4r w n
 ·have e7:w.place n=(⟨⟨w.heap.conf,w.heap.words,Z21 w.heap.pages (Z0R w).toNat n,w.heap.space,w.heap.bump⟩,w.old,w.taken,w.queue,w.scanned,w.rep⟩,4096+Z0R w*w.heap.conf.pw+(w.heap.pages.getD (Z0R w).toNat default).used,true):=by rw[Work.place,if_pos hf]
  unfold Z4r at hf
  have hm:=hw.tk _ (Z1x hf.1)
  have hu:=hw.us (Z0R w).toNat (by omega)
  have ha:=Z2C hw.conf hm.1 (by omega)
  unfold Z0R at hm hu ha hf e7
  rw[e7]
  exact gF [] Tryz.func168 [false,false,false,false,false,false,false,false,false,false,false,false,false,false,false,false,false,false,false,false] (Fh 34 [.el (w.heap.pages.getD (w.taken.getD ((↑w.taken.length:Int)-1).toNat default).toNat default).dv] (Fh 47 [.el (idv (w.taken.getD ((↑w.taken.length:Int)-1).toNat default))] (Fh 91 [.el (w.heap.pages.getD (w.taken.getD ((↑w.taken.length:Int)-1).toNat default).toNat default).dv] (Fh 104 [.el (w.heap.pages.getD (w.taken.getD ((↑w.taken.length:Int)-1).toNat default).toNat default).dv] (Fs 10 (List.map Page.dv []) (Fa (by(simp[*];omega):(List.map Page.dv []).length+(List.map Page.dv w.heap.pages).length≤2^30) (Fs 14 (List.map Page.dv w.heap.pages) (Fl 19 idv w.taken (FiG 29 (decide (0<(↑w.taken.length:Int))) ((↑w.taken.length:Int)-1) (Fa (by intro hg;(try simp only[bs]at hg);exact elI (by omega) (by omega) (by omega):decide (0<(↑w.taken.length:Int))=true→0≤(↑w.taken.length:Int)-1∧(List.map idv w.taken)[((↑w.taken.length:Int)-1).toNat]? = some (idv (w.taken.getD ((↑w.taken.length:Int)-1).toNat default))) (Fa (by intro hg;(try simp only[bs]at hg);(simp only[List.length_map];omega):decide (0<(↑w.taken.length:Int))=true→0≤w.taken.getD ((↑w.taken.length:Int)-1).toNat default∧(w.taken.getD ((↑w.taken.length:Int)-1).toNat default).toNat<(List.map Page.dv w.heap.pages).length) (Fa (by intro hg;(try simp only[bs]at hg);exact Z1D (by omega):decide (0<(↑w.taken.length:Int))=true→(List.map Page.dv w.heap.pages)[(w.taken.getD ((↑w.taken.length:Int)-1).toNat default).toNat]? = some (w.heap.pages.getD (w.taken.getD ((↑w.taken.length:Int)-1).toNat default).toNat default).dv) (FiG 36 (decide (0<(↑w.taken.length:Int))) ((w.heap.pages.getD (w.taken.getD ((↑w.taken.length:Int)-1).toNat default).toNat default).used+n) (Ftb 42 (decide (0<(↑w.taken.length:Int))&&decide ((w.heap.pages.getD (w.taken.getD ((↑w.taken.length:Int)-1).toNat default).toNat default).used+n≤w.heap.conf.pw)) (Fi 46 ((↑w.taken.length:Int)-1) (Fek 30 idv w.taken ((↑w.taken.length:Int)-1) (((↑w.taken.length:Int)-1).toNat) (Fi 83 (w.taken.getD ((↑w.taken.length:Int)-1).toNat default*w.heap.conf.pw) (Fi 84 (4096+w.taken.getD ((↑w.taken.length:Int)-1).toNat default*w.heap.conf.pw) (Fa (by(simp only[List.length_map];omega):0≤w.taken.getD ((↑w.taken.length:Int)-1).toNat default∧(w.taken.getD ((↑w.taken.length:Int)-1).toNat default).toNat<(List.map Page.dv w.heap.pages).length) (Fa (by exact Z1D (by omega):(List.map Page.dv w.heap.pages)[(w.taken.getD ((↑w.taken.length:Int)-1).toNat default).toNat]? = some (w.heap.pages.getD (w.taken.getD ((↑w.taken.length:Int)-1).toNat default).toNat default).dv) (Fi 92 (4096+w.taken.getD ((↑w.taken.length:Int)-1).toNat default*w.heap.conf.pw+(w.heap.pages.getD (w.taken.getD ((↑w.taken.length:Int)-1).toNat default).toNat default).used) (Fv 93 (4096+w.taken.getD ((↑w.taken.length:Int)-1).toNat default*w.heap.conf.pw+(w.heap.pages.getD (w.taken.getD ((↑w.taken.length:Int)-1).toNat default).toNat default).used) (Fa (by(simp only[List.length_map];omega):0≤w.taken.getD ((↑w.taken.length:Int)-1).toNat default∧(w.taken.getD ((↑w.taken.length:Int)-1).toNat default).toNat<(List.map Page.dv w.heap.pages).length) (Fa (by exact Z1D (by omega):(List.map Page.dv w.heap.pages)[(w.taken.getD ((↑w.taken.length:Int)-1).toNat default).toNat]? = some (w.heap.pages.getD (w.taken.getD ((↑w.taken.length:Int)-1).toNat default).toNat default).dv) (Fi 106 ((w.heap.pages.getD (w.taken.getD ((↑w.taken.length:Int)-1).toNat default).toNat default).used+n) (Fa (by(simp only[List.length_map];omega):0≤w.taken.getD ((↑w.taken.length:Int)-1).toNat default∧(w.taken.getD ((↑w.taken.length:Int)-1).toNat default).toNat<(List.map Page.dv w.heap.pages).length) (Fa (by exact Z1D (by omega):(List.map Page.dv w.heap.pages)[(w.taken.getD ((↑w.taken.length:Int)-1).toNat default).toNat]? = some (w.heap.pages.getD (w.taken.getD ((↑w.taken.length:Int)-1).toNat default).toNat default).dv) (FS 10108 Page.dv w.heap.pages ((w.taken.getD ((↑w.taken.length:Int)-1).toNat default).toNat) (Page.mk (w.heap.pages.getD (w.taken.getD ((↑w.taken.length:Int)-1).toNat default).toNat default).kind (w.heap.pages.getD (w.taken.getD ((↑w.taken.length:Int)-1).toNat default).toNat default).space ((w.heap.pages.getD (w.taken.getD ((↑w.taken.length:Int)-1).toNat default).toNat default).used+n) (w.heap.pages.getD (w.taken.getD ((↑w.taken.length:Int)-1).toNat default).toNat default).pins) ((w.heap.pages.getD (w.taken.getD ((↑w.taken.length:Int)-1).toNat default).toNat default).dv) Fz))))))))))))))))))))))))))))
 ·by_cases hg:0≤first w.heap.pages 1
  ·have e7:w.place n=(⟨⟨w.heap.conf,w.heap.words,Z21 (Z2w w) (first w.heap.pages 1).toNat n,w.heap.space,w.heap.bump⟩,w.old,w.taken++[first w.heap.pages 1],w.queue,w.scanned,w.rep⟩,4096+first w.heap.pages 1*w.heap.conf.pw,true):=by rw[Work.place,if_neg hf,if_pos (show 0≤Z0t w from hg)];rfl
   obtain⟨q1,q2,q3,q4⟩:=Z2y (h:=⟨w.heap.conf,w.heap.words,w.heap.pages,1-w.heap.space,w.heap.bump⟩) (by have:=hw.sp;simp only;omega) hg
   obtain⟨r1,r2,r3⟩:=Z1z hg
   simp only at q1 q2 q3 q4
   rw[q1]at q2 q4
   have e8:Z2w w=_:=q1
   rw[e8]at e7
   have r4:Z7R w.heap.pages (first w.heap.pages 1).toNat 1=true:=r3
   have ha:=Z2C hw.conf hg (by omega)
   have q6:=congrArg Page.used q4
   simp only at q6
   have hs:=hw.sp
   have hm:0<w.taken.length→0≤Z0R w∧Z0R w<w.heap.pages.length:=fun h=>⟨(hw.tk _ (Z1x h)).1,(hw.tk _ (Z1x h)).2.1⟩
   have hu:=fun h=>hw.us (Z0R w).toNat h
   unfold Z4r at hf
   unfold Z0R at hf hm hu
   exact gF [] Tryz.func168 [false,false,false,false,false,false,false,false,false,false,false,false,false,false,false,false,false,false,false,true] (Fh 30 [.el (idv (w.taken.getD ((↑w.taken.length:Int)-1).toNat default))] (Fh 34 [.el (w.heap.pages.getD (w.taken.getD ((↑w.taken.length:Int)-1).toNat default).toNat default).dv] (Fh 76 [.els (List.map idv (w.taken++[first w.heap.pages 1]))] (Fh 91 [.el ((tookP w.heap.pages (first w.heap.pages 1).toNat 1 (Page.mk 1 (1-w.heap.space) 0 0) (Page.mk 0 0 0 0)).getD (first w.heap.pages 1).toNat default).dv] (Fh 104 [.el ((tookP w.heap.pages (first w.heap.pages 1).toNat 1 (Page.mk 1 (1-w.heap.space) 0 0) (Page.mk 0 0 0 0)).getD (first w.heap.pages 1).toNat default).dv] (Fs 10 (List.map Page.dv []) (Fa (by(simp[*];omega):(List.map Page.dv []).length+(List.map Page.dv w.heap.pages).length≤2^30) (Fs 14 (List.map Page.dv w.heap.pages) (Fl 19 idv w.taken (FiG 29 (decide (0<(↑w.taken.length:Int))) ((↑w.taken.length:Int)-1) (Fa (by intro hg;(try simp only[bs]at hg);exact elI (by omega) (by omega) (by omega):decide (0<(↑w.taken.length:Int))=true→0≤(↑w.taken.length:Int)-1∧(List.map idv w.taken)[((↑w.taken.length:Int)-1).toNat]? = some (idv (w.taken.getD ((↑w.taken.length:Int)-1).toNat default))) (Fa (by intro hg;(try simp only[bs]at hg);(simp only[List.length_map];omega):decide (0<(↑w.taken.length:Int))=true→0≤w.taken.getD ((↑w.taken.length:Int)-1).toNat default∧(w.taken.getD ((↑w.taken.length:Int)-1).toNat default).toNat<(List.map Page.dv w.heap.pages).length) (Fa (by intro hg;(try simp only[bs]at hg);exact Z1D (by omega):decide (0<(↑w.taken.length:Int))=true→(List.map Page.dv w.heap.pages)[(w.taken.getD ((↑w.taken.length:Int)-1).toNat default).toNat]? = some (w.heap.pages.getD (w.taken.getD ((↑w.taken.length:Int)-1).toNat default).toNat default).dv) (FiG 36 (decide (0<(↑w.taken.length:Int))) ((w.heap.pages.getD (w.taken.getD ((↑w.taken.length:Int)-1).toNat default).toNat default).used+n) (Ffb 42 (decide (0<(↑w.taken.length:Int))&&decide ((w.heap.pages.getD (w.taken.getD ((↑w.taken.length:Int)-1).toNat default).toNat default).used+n≤w.heap.conf.pw)) (Fc 52 (@Z54 w.heap.pages (1) (by omega)) (Ffb 54 (decide (first w.heap.pages (1:Int)<0)) (Fi 64 (1-w.heap.space) (Fc 65 (@Z93 w.heap.pages (first w.heap.pages 1) (1-w.heap.space) (by omega) (by omega) (by omega) ‹_›) (Fs 70 (List.map idv []) (Fa (by(simp[*];omega):(List.map idv []).length+(List.map idv w.taken).length≤2^30) (Fs 73 (List.map idv w.taken) (Fs 75 (List.map idv [first w.heap.pages 1]) (Fa (by(simp[*];omega):(List.map idv w.taken).length+(List.map idv [first w.heap.pages 1]).length≤2^30) (Fa (by simp[List.map_take,List.map_drop,List.map_set,List.map_append,wdv,idv]:List.map idv w.taken++List.map idv [first w.heap.pages 1]=List.map idv (w.taken++[first w.heap.pages 1])) (Fi 83 (first w.heap.pages 1*w.heap.conf.pw) (Fi 84 (4096+first w.heap.pages 1*w.heap.conf.pw) (Fa (by(simp only[List.length_map];omega):0≤first w.heap.pages 1∧(first w.heap.pages 1).toNat<(List.map Page.dv (tookP w.heap.pages (first w.heap.pages 1).toNat 1 (Page.mk 1 (1-w.heap.space) 0 0) (Page.mk 0 0 0 0))).length) (Fa (by exact Z1D (by omega):(List.map Page.dv (tookP w.heap.pages (first w.heap.pages 1).toNat 1 (Page.mk 1 (1-w.heap.space) 0 0) (Page.mk 0 0 0 0)))[(first w.heap.pages 1).toNat]? = some ((tookP w.heap.pages (first w.heap.pages 1).toNat 1 (Page.mk 1 (1-w.heap.space) 0 0) (Page.mk 0 0 0 0)).getD (first w.heap.pages 1).toNat default).dv) (Fi 92 (4096+first w.heap.pages 1*w.heap.conf.pw+((tookP w.heap.pages (first w.heap.pages 1).toNat 1 (Page.mk 1 (1-w.heap.space) 0 0) (Page.mk 0 0 0 0)).getD (first w.heap.pages 1).toNat default).used) (Fv 93 (4096+first w.heap.pages 1*w.heap.conf.pw+((tookP w.heap.pages (first w.heap.pages 1).toNat 1 (Page.mk 1 (1-w.heap.space) 0 0) (Page.mk 0 0 0 0)).getD (first w.heap.pages 1).toNat default).used) (Fa (by(simp only[List.length_map];omega):0≤first w.heap.pages 1∧(first w.heap.pages 1).toNat<(List.map Page.dv (tookP w.heap.pages (first w.heap.pages 1).toNat 1 (Page.mk 1 (1-w.heap.space) 0 0) (Page.mk 0 0 0 0))).length) (Fa (by exact Z1D (by omega):(List.map Page.dv (tookP w.heap.pages (first w.heap.pages 1).toNat 1 (Page.mk 1 (1-w.heap.space) 0 0) (Page.mk 0 0 0 0)))[(first w.heap.pages 1).toNat]? = some ((tookP w.heap.pages (first w.heap.pages 1).toNat 1 (Page.mk 1 (1-w.heap.space) 0 0) (Page.mk 0 0 0 0)).getD (first w.heap.pages 1).toNat default).dv) (Fi 106 (((tookP w.heap.pages (first w.heap.pages 1).toNat 1 (Page.mk 1 (1-w.heap.space) 0 0) (Page.mk 0 0 0 0)).getD (first w.heap.pages 1).toNat default).used+n) (Fa (by(simp only[List.length_map];omega):0≤first w.heap.pages 1∧(first w.heap.pages 1).toNat<(List.map Page.dv (tookP w.heap.pages (first w.heap.pages 1).toNat 1 (Page.mk 1 (1-w.heap.space) 0 0) (Page.mk 0 0 0 0))).length) (Fa (by exact Z1D (by omega):(List.map Page.dv (tookP w.heap.pages (first w.heap.pages 1).toNat 1 (Page.mk 1 (1-w.heap.space) 0 0) (Page.mk 0 0 0 0)))[(first w.heap.pages 1).toNat]? = some ((tookP w.heap.pages (first w.heap.pages 1).toNat 1 (Page.mk 1 (1-w.heap.space) 0 0) (Page.mk 0 0 0 0)).getD (first w.heap.pages 1).toNat default).dv) (FS 10108 Page.dv (tookP w.heap.pages (first w.heap.pages 1).toNat 1 (Page.mk 1 (1-w.heap.space) 0 0) (Page.mk 0 0 0 0)) ((first w.heap.pages 1).toNat) (Page.mk ((tookP w.heap.pages (first w.heap.pages 1).toNat 1 (Page.mk 1 (1-w.heap.space) 0 0) (Page.mk 0 0 0 0)).getD (first w.heap.pages 1).toNat default).kind ((tookP w.heap.pages (first w.heap.pages 1).toNat 1 (Page.mk 1 (1-w.heap.space) 0 0) (Page.mk 0 0 0 0)).getD (first w.heap.pages 1).toNat default).space (((tookP w.heap.pages (first w.heap.pages 1).toNat 1 (Page.mk 1 (1-w.heap.space) 0 0) (Page.mk 0 0 0 0)).getD (first w.heap.pages 1).toNat default).used+n) ((tookP w.heap.pages (first w.heap.pages 1).toNat 1 (Page.mk 1 (1-w.heap.space) 0 0) (Page.mk 0 0 0 0)).getD (first w.heap.pages 1).toNat default).pins) (((tookP w.heap.pages (first w.heap.pages 1).toNat 1 (Page.mk 1 (1-w.heap.space) 0 0) (Page.mk 0 0 0 0)).getD (first w.heap.pages 1).toNat default).dv) (Fa (by rw[e7]:w.heap.conf.pw=(w.place n).fst.heap.conf.pw) (Fa (by rw[e7]:w.heap.conf.pg=(w.place n).fst.heap.conf.pg) (Fa (by refine congrArg _ ?_;rw[e7]:List.map wdv w.heap.words=List.map wdv (w.place n).fst.heap.words) (Fa (by refine congrArg _ ?_;rw[e7];rfl:List.map Page.dv ((tookP w.heap.pages (first w.heap.pages 1).toNat 1 (Page.mk 1 (1-w.heap.space) 0 0) (Page.mk 0 0 0 0)).set (first w.heap.pages 1).toNat (Page.mk ((tookP w.heap.pages (first w.heap.pages 1).toNat 1 (Page.mk 1 (1-w.heap.space) 0 0) (Page.mk 0 0 0 0)).getD (first w.heap.pages 1).toNat default).kind ((tookP w.heap.pages (first w.heap.pages 1).toNat 1 (Page.mk 1 (1-w.heap.space) 0 0) (Page.mk 0 0 0 0)).getD (first w.heap.pages 1).toNat default).space (((tookP w.heap.pages (first w.heap.pages 1).toNat 1 (Page.mk 1 (1-w.heap.space) 0 0) (Page.mk 0 0 0 0)).getD (first w.heap.pages 1).toNat default).used+n) ((tookP w.heap.pages (first w.heap.pages 1).toNat 1 (Page.mk 1 (1-w.heap.space) 0 0) (Page.mk 0 0 0 0)).getD (first w.heap.pages 1).toNat default).pins))=List.map Page.dv (w.place n).fst.heap.pages) (Fa (by rw[e7]:w.heap.space=(w.place n).fst.heap.space) (Fa (by rw[e7]:w.heap.bump=(w.place n).fst.heap.bump) (Fa (by refine congrArg _ ?_;rw[e7]:List.map wdv w.old=List.map wdv (w.place n).fst.old) (Fa (by refine congrArg _ ?_;rw[e7]:List.map idv (w.taken++[first w.heap.pages 1])=List.map idv (w.place n).fst.taken) (Fa (by refine congrArg _ ?_;rw[e7]:List.map wdv w.queue=List.map wdv (w.place n).fst.queue) (Fa (by rw[e7]:w.scanned=(w.place n).fst.scanned) (Fa (by rw[e7]:w.rep.copied=(w.place n).fst.rep.copied) (Fa (by rw[e7]:w.rep.kept=(w.place n).fst.rep.kept) (Fa (by rw[e7]:w.rep.filled=(w.place n).fst.rep.filled) (Fa (by rw[e7]:w.rep.freed=(w.place n).fst.rep.freed) (Fa (by rw[e7]:w.rep.cleared=(w.place n).fst.rep.cleared) (Fa (by rw[e7]:w.rep.steps=(w.place n).fst.rep.steps) (Fa (by grind[]:4096+first w.heap.pages 1*w.heap.conf.pw+((tookP w.heap.pages (first w.heap.pages 1).toNat 1 (Page.mk 1 (1-w.heap.space) 0 0) (Page.mk 0 0 0 0)).getD (first w.heap.pages 1).toNat default).used=(w.place n).snd.fst) (Fa (by rw[e7]:true=(w.place n).snd.snd) Fz)))))))))))))))))))))))))))))))))))))))))))))))))))))))
  ·have e7:w.place n=(noWork,0,false):=by rw[Work.place,if_neg hf,if_neg (show ¬ 0≤Z0t w from hg)]
   have hm:0<w.taken.length→0≤Z0R w∧Z0R w<w.heap.pages.length:=fun h=>⟨(hw.tk _ (Z1x h)).1,(hw.tk _ (Z1x h)).2.1⟩
   have hu:=fun h=>hw.us (Z0R w).toNat h
   unfold Z4r at hf
   unfold Z0R at hf hm hu
   rw[e7]
   exact gF [] Tryz.func168 [false,false,false,false,false,false,false,false,false,false,false,false,false,false,false,false,false,false,false,false] (Fh 30 [.el (idv (w.taken.getD ((↑w.taken.length:Int)-1).toNat default))] (Fh 34 [.el (w.heap.pages.getD (w.taken.getD ((↑w.taken.length:Int)-1).toNat default).toNat default).dv] (Fs 10 (List.map Page.dv []) (Fa (by(simp[noWork,noHeap, *];omega):(List.map Page.dv []).length+(List.map Page.dv w.heap.pages).length≤2^30) (Fs 14 (List.map Page.dv w.heap.pages) (Fl 19 idv w.taken (FiG 29 (decide (0<(↑w.taken.length:Int))) ((↑w.taken.length:Int)-1) (Fa (by intro hg;(try simp only[bs]at hg);exact elI (by omega) (by omega) (by omega):decide (0<(↑w.taken.length:Int))=true→0≤(↑w.taken.length:Int)-1∧(List.map idv w.taken)[((↑w.taken.length:Int)-1).toNat]? = some (idv (w.taken.getD ((↑w.taken.length:Int)-1).toNat default))) (Fa (by intro hg;(try simp only[bs]at hg);(simp only[List.length_map];omega):decide (0<(↑w.taken.length:Int))=true→0≤w.taken.getD ((↑w.taken.length:Int)-1).toNat default∧(w.taken.getD ((↑w.taken.length:Int)-1).toNat default).toNat<(List.map Page.dv w.heap.pages).length) (Fa (by intro hg;(try simp only[bs]at hg);exact Z1D (by omega):decide (0<(↑w.taken.length:Int))=true→(List.map Page.dv w.heap.pages)[(w.taken.getD ((↑w.taken.length:Int)-1).toNat default).toNat]? = some (w.heap.pages.getD (w.taken.getD ((↑w.taken.length:Int)-1).toNat default).toNat default).dv) (FiG 36 (decide (0<(↑w.taken.length:Int))) ((w.heap.pages.getD (w.taken.getD ((↑w.taken.length:Int)-1).toNat default).toNat default).used+n) (Ffb 42 (decide (0<(↑w.taken.length:Int))&&decide ((w.heap.pages.getD (w.taken.getD ((↑w.taken.length:Int)-1).toNat default).toNat default).used+n≤w.heap.conf.pw)) (Fc 52 (@Z54 w.heap.pages (1) (by omega)) (Ftb 54 (decide (first w.heap.pages (1:Int)<0)) (Fnl (Fnl (Fnl (Fnl (Fnl Fz)))))))))))))))))))
def preM{α:Type}(f:α→α)(l:List α)(i:Nat):List α:=(l.take i).map f++l.drop i
theorem ZhR{α:Type}(f:α→α)(l:List α):preM f l 0=l:=by simp[preM]
theorem Z9J{α:Type}(f:α→α)(l:List α):preM f l l.length=l.map f:=by simp[preM]
theorem Z55{α:Type}(f:α→α)(l:List α)(i:Nat):(preM f l i).length=l.length:=by simp[preM];omega
theorem Zap{α:Type}(f:α→α)(l:List α){i j:Nat}(h:i≤j)(d:α):(preM f l i).getD j d=l.getD j d:=by
 rw[List.getD_eq_getElem?_getD,List.getD_eq_getElem?_getD]
 congr 1
 by_cases hi:i≤l.length
 ·rw[preM,List.getElem?_append_right (by simp;omega)]
  simp only[List.length_map,List.length_take,List.getElem?_drop]
  congr 1;omega
 ·rw[List.getElem?_eq_none (by rw[Z55];omega),List.getElem?_eq_none (by omega)]
theorem Z80{α:Type}(f:α→α)(l:List α){i:Nat}(h:i<l.length)(d:α):(preM f l i).set i (f (l.getD i d))=preM f l (i+1):=by
 have e:l.getD i d=l[i]:=by simp[List.getD_eq_getElem?_getD,h]
 rw[e,preM,preM,List.take_succ_eq_append_getElem h,List.map_append,List.set_append_right i _ (by simp;omega),List.append_assoc]
 congr 1
 have:l.drop i=l[i]::l.drop (i+1):=List.drop_eq_getElem_cons h
 rw[show i-(List.map f (List.take i l)).length=0 by simp;omega,this]
 rfl
theorem Zca{α:Type}(f:α→α)(l:List α){i:Nat}(h:i<l.length)(d:α)(hf:f (l.getD i d)=l.getD i d):preM f l i=preM f l (i+1):=by
 rw[← Z80 f l h d,hf,← Zap f l (Nat.le_refl i) d]
 have h':i<(preM f l i).length:=by rw[Z55];exact h
 rw[show(preM f l i).getD i d=(preM f l i)[i] by simp[List.getD_eq_getElem?_getD,h'],List.set_getElem_self]
def begQ(s:Int)(p:Page):Page:=if p.kind=1∧0<p.pins then⟨p.kind,s,p.used,p.pins⟩else p
def begL(h:Heap)(all:List Int)(i:Nat):Tg:=⟨tm 61 [(1,.pt 8001 0 0),(2,.pt 8002 0 0),(3,int 0),(4,.pt 32004 0 0),(5,int i)],[(32004,.box 176 [int h.conf.pw,int h.conf.pg,Z02 h.words,.ow 48026,int h.space,int h.bump,Z02 all,.d (.sl 0 []),.d (.sl 0 []),int 0,int 0,int 0,int 0,int 0,int 0,int 0]),(48026,.arr 56 4 ((preM (begQ (1-h.space)) h.pages i).map Page.dv)),(8002,.box 176 [int 0,int 0,.d (.sl 0 []),.d (.sl 0 []),int 0,int 0,.d (.sl 0 []),.d (.sl 0 []),.d (.sl 0 []),int 0,int 0,int 0,int 0,int 0,int 0,int 0]),(8001,.box 28 h.cells)],60⟩
section
variable (h:Heap) (all:List Int) (hs:h.space=0∨h.space=1) (hl:h.pages.length≤1048576)
include hs hl
theorem ZhW(i:Nat)(hi:i<h.pages.length):CSpec Tryz.prog (rndF Tryz.f139 0) (begL h all i).st .nrm (begL h all (i+1)).st:=by
 have ha:=Zap (begQ (1-h.space)) h.pages (Nat.le_refl i) default
 have hn:=Z55 (begQ (1-h.space)) h.pages i
 by_cases hc:(h.pages.getD i default).kind=1∧0<(h.pages.getD i default).pins
 ·have hq:=Z80 (begQ (1-h.space)) h.pages hi default
  rw[show begQ (1-h.space) (h.pages.getD i default)=⟨(h.pages.getD i default).kind,1-h.space,(h.pages.getD i default).used,(h.pages.getD i default).pins⟩ by rw[begQ,if_pos hc],← ha]at hq
  rw[← ha]at hc
  have Q0 {h_ c_ p_} (r_:Fq h_ c_ p_):=Fl 33 Page.dv (preM (begQ ((1:Int)-h.space)) h.pages i) (Ftb 34 (decide ((↑i:Int)<(↑(preM (begQ (1-h.space)) h.pages i).length:Int))) (Fm 42 Page.dv (preM (begQ (1-h.space)) h.pages i) (↑i) ((↑i:Int).toNat) r_))
  rcases bb (((preM (begQ (1-h.space)) h.pages i).getD (↑i:Int).toNat default).kind==1&&decide (0<((preM (begQ (1-h.space)) h.pages i).getD (↑i:Int).toNat default).pins))with hc0 | hc0<;>have hc0p:=hc0<;>simp only[bs]at hc0p
  ·obtain⟨hc0pa,hc0pb⟩:=hc0p
   exact sF [] [false,false,false,false,false,false,false,false,false,true] (Q0 (Ft 50 hc0 (Fi 57 (1-h.space) (Fm0 Page.dv (preM (begQ (1-h.space)) h.pages i) (↑i) ((↑i:Int).toNat) (FS 10059 Page.dv (preM (begQ (1-h.space)) h.pages i) ((↑i:Int).toNat) (Page.mk ((preM (begQ (1-h.space)) h.pages i).getD (↑i:Int).toNat default).kind (1-h.space) ((preM (begQ (1-h.space)) h.pages i).getD (↑i:Int).toNat default).used ((preM (begQ (1-h.space)) h.pages i).getD (↑i:Int).toNat default).pins) (((preM (begQ (1-h.space)) h.pages i).getD (↑i:Int).toNat default).dv) (Fx 36 i (Fr (56:Int) (Fa (by refine congrArg _ ?_;exact hq:List.map Page.dv ((preM (begQ (1-h.space)) h.pages i).set (↑i:Int).toNat (Page.mk ((preM (begQ (1-h.space)) h.pages i).getD (↑i:Int).toNat default).kind (1-h.space) ((preM (begQ (1-h.space)) h.pages i).getD (↑i:Int).toNat default).used ((preM (begQ (1-h.space)) h.pages i).getD (↑i:Int).toNat default).pins))=List.map Page.dv (preM (begQ (1-h.space)) h.pages (i+1))) Fz))))))))
  ·exact sF [] [false,false,false,false,false,false,false,false,false,true] (Q0 (Ff 50 hc0 (Fx 36 i (Fr (56:Int) (Fa (by refine congrArg _ ?_;grind[]:List.map Page.dv (preM (begQ (1-h.space)) h.pages i)=List.map Page.dv (preM (begQ (1-h.space)) h.pages (i+1))) Fz)))))
 ·have hq:=Zca (begQ (1-h.space)) h.pages hi default (by rw[begQ,if_neg hc])
  rw[← ha]at hc
  have Q1 {h_ c_ p_} (r_:Fq h_ c_ p_):=Fl 33 Page.dv (preM (begQ ((1:Int)-h.space)) h.pages i) (Ftb 34 (decide ((↑i:Int)<(↑(preM (begQ (1-h.space)) h.pages i).length:Int))) (Fm 42 Page.dv (preM (begQ (1-h.space)) h.pages i) (↑i) ((↑i:Int).toNat) r_))
  rcases bb (((preM (begQ (1-h.space)) h.pages i).getD (↑i:Int).toNat default).kind==1&&decide (0<((preM (begQ (1-h.space)) h.pages i).getD (↑i:Int).toNat default).pins))with hc0 | hc0<;>have hc0p:=hc0<;>simp only[bs]at hc0p
  ·obtain⟨hc0pa,hc0pb⟩:=hc0p
   exact sF [] [false,false,false,false,false,false,false,false,false,true] (Q1 (Ft 50 hc0 (Fi 57 (1-h.space) (Fm0 Page.dv (preM (begQ (1-h.space)) h.pages i) (↑i) ((↑i:Int).toNat) (FS 10059 Page.dv (preM (begQ (1-h.space)) h.pages i) ((↑i:Int).toNat) (Page.mk ((preM (begQ (1-h.space)) h.pages i).getD (↑i:Int).toNat default).kind (1-h.space) ((preM (begQ (1-h.space)) h.pages i).getD (↑i:Int).toNat default).used ((preM (begQ (1-h.space)) h.pages i).getD (↑i:Int).toNat default).pins) (((preM (begQ (1-h.space)) h.pages i).getD (↑i:Int).toNat default).dv) (Fx 36 i (Fr (56:Int) (Fa (by refine congrArg _ ?_;grind[]:List.map Page.dv ((preM (begQ (1-h.space)) h.pages i).set (↑i:Int).toNat (Page.mk ((preM (begQ (1-h.space)) h.pages i).getD (↑i:Int).toNat default).kind (1-h.space) ((preM (begQ (1-h.space)) h.pages i).getD (↑i:Int).toNat default).used ((preM (begQ (1-h.space)) h.pages i).getD (↑i:Int).toNat default).pins))=List.map Page.dv (preM (begQ (1-h.space)) h.pages (i+1))) Fz))))))))
  ·exact sF [] [false,false,false,false,false,false,false,false,false,true] (Q1 (Ff 50 hc0 (Fx 36 i (Fr (56:Int) (Fa (by refine congrArg _ ?_;exact hq:List.map Page.dv (preM (begQ (1-h.space)) h.pages i)=List.map Page.dv (preM (begQ (1-h.space)) h.pages (i+1))) Fz)))))
omit hs hl in
theorem ZlU:CSpec Tryz.prog (rndF Tryz.f139 0) (begL h all h.pages.length).st (.ext 0) (Tg.st ⟨tm 61 [(2,.pt 8002 0 0),(3,int 0),(4,.pt 32004 0 0)],[(32004,.box 176 [int h.conf.pw,int h.conf.pg,Z02 h.words,.ow 48026,int h.space,int h.bump,Z02 all,.d (.sl 0 []),.d (.sl 0 []),int 0,int 0,int 0,int 0,int 0,int 0,int 0]),(48026,.arr 56 4 ((h.pages.map (begQ (1-h.space))).map Page.dv)),(8002,.box 176 [int 0,int 0,.d (.sl 0 []),.d (.sl 0 []),int 0,int 0,.d (.sl 0 []),.d (.sl 0 []),.d (.sl 0 []),int 0,int 0,int 0,int 0,int 0,int 0,int 0])],60⟩):=by
 have hq:=Z9J (begQ (1-h.space)) h.pages
 have hn:=Z55 (begQ (1-h.space)) h.pages h.pages.length
 exact sF [] [false,false,false,false,true] (Fl 33 Page.dv (preM (begQ ((1:Int)-h.space)) h.pages h.pages.length) (Ffb 34 (decide ((↑h.pages.length:Int)<(↑(preM (begQ (1-h.space)) h.pages h.pages.length).length:Int))) (Fr (56:Int) (Fa (by refine congrArg _ ?_;assumption:List.map Page.dv (preM (begQ (1-h.space)) h.pages h.pages.length)=List.map Page.dv (List.map (begQ (1-h.space)) h.pages)) Fz))))
theorem Zl1:CSpec Tryz.prog (blkF Tryz.f139 0) (Tg.st ⟨tm 61 [(1,.pt 8001 0 0),(2,.pt 8002 0 0),(3,int 0),(4,.pt 32004 0 0),(5,int 0)],[(32004,.box 176 [int h.conf.pw,int h.conf.pg,Z02 h.words,.ow 48026,int h.space,int h.bump,Z02 all,.d (.sl 0 []),.d (.sl 0 []),int 0,int 0,int 0,int 0,int 0,int 0,int 0]),(48026,.arr 56 4 (h.pages.map Page.dv)),(8002,.box 176 [int 0,int 0,.d (.sl 0 []),.d (.sl 0 []),int 0,int 0,.d (.sl 0 []),.d (.sl 0 []),.d (.sl 0 []),int 0,int 0,int 0,int 0,int 0,int 0,int 0]),(8001,.box 28 h.cells)],60⟩) .nrm (Tg.st ⟨tm 61 [(2,.pt 8002 0 0),(3,int 0),(4,.pt 32004 0 0)],[(32004,.box 176 [int h.conf.pw,int h.conf.pg,Z02 h.words,.ow 48026,int h.space,int h.bump,Z02 all,.d (.sl 0 []),.d (.sl 0 []),int 0,int 0,int 0,int 0,int 0,int 0,int 0]),(48026,.arr 56 4 ((h.pages.map (begQ (1-h.space))).map Page.dv)),(8002,.box 176 [int 0,int 0,.d (.sl 0 []),.d (.sl 0 []),int 0,int 0,.d (.sl 0 []),.d (.sl 0 []),.d (.sl 0 []),int 0,int 0,int 0,int 0,int 0,int 0,int 0])],60⟩):=by
 have:=Z0c (S:=fun k=>(begL h all k).st) h.pages.length (by kernel_rfl) (fun k hk=>ZhW h all hs hl k hk) (ZlU h all)
 simp only[begL,ZhR]at this
 exact this
end
def beginW(h:Heap):Work:=⟨⟨h.conf,h.words,h.pages.map (begQ (1-h.space)),h.space,h.bump⟩,(Z08 h).1,[],[],0,⟨0,0,0,0,0,0⟩⟩
theorem Z44(h:Heap)(hw:WOk h.words)(hp:Z03 h=true)(hg:Z0O h=⟨0,0,0⟩):GSpec Tryz.prog 139 [h.av] false (.tu [(beginW h).av,int 0]) []:=by
 have po:=Z09 hp
 have ho:=Z3v h
 exact gF [] Tryz.func139 [] (Fc 8 (@Z0l h) (Ffb 9 (!Z03 h) (Fc 12 (@Z71 h ‹_›) (Ffb 13 (!decide (Z0O h=Finding.mk 0 0 0)) (Fc 19 (@Z3j h ‹_›) (Fs 23 (List.map Page.dv []) (Fa (by(simp[beginW, *];omega):(List.map Page.dv []).length+(List.map Page.dv h.pages).length≤2^30) (Fs 26 (List.map Page.dv h.pages) (Fu (@Zl1 h ((Z08 h).fst) (by omega) (by omega)) (Fnl (Fnl Fz)))))))))))
theorem ZhQ(w:Work)(r:Int)(hw:WkOk w)(h0:0≤r∧r≤18446744073709551615)(hc:r=0∨r∈w.queue):GSpec Tryz.prog 159 [w.av,u64 r] false (.tu [w.av,u64 r,int 0]) []:=by
 have h1:=hw.mu
 rcases hc with hc | hc
 ·exact gF [] Tryz.func159 [] (FcG 29 (!r==0) (fun hg=>by(try simp only[bs]at hg);exact @Z0X w.queue r (by(try simp only[bs]at hg);omega)) (Ftb 30 (r==0||decide (r∈w.queue)) Fz))
 ·by_cases h0:r=0
  ·exact gF [] Tryz.func159 [] (FcG 29 (!r==0) (fun hg=>by(try simp only[bs]at hg);exact @Z0X w.queue r (by(try simp only[bs]at hg);omega)) (Ftb 30 (r==0||decide (r∈w.queue)) Fz))
  ·exact gF [] Tryz.func159 [] (FcG 29 (!r==0) (fun hg=>by(try simp only[bs]at hg);exact @Z0X w.queue r (by(try simp only[bs]at hg);omega)) (Ft 30 (by simp only[bs, *,true_or,or_true,true_and,and_true,not_true_eq_false,not_false_eq_true,Bool.true_eq_false,Bool.false_eq_true]:(r==0||decide (r∈w.queue))=true) Fz))
theorem Zh3(w:Work)(r:Int)(hw:WkOk w)(h0:0≤r∧r≤18446744073709551615)(c1:r≠0)(c2:r∉w.queue)(c3:r∉w.old):GSpec Tryz.prog 159 [w.av,u64 r] false (.tu [noWork.av,u64 0,int 19]) []:=by
 have h1:=hw.mu
 have h2:=hw.ol
 exact gF [] Tryz.func159 [] (FcG 29 (!r==0) (fun hg=>by(try simp only[bs]at hg);exact @Z0X w.queue r (by(try simp only[bs]at hg);omega)) (Ff 30 (by simp only[bs, *,true_or,or_true,true_and,and_true,not_true_eq_false,not_false_eq_true,Bool.true_eq_false,Bool.false_eq_true]:(r==0||decide (r∈w.queue))=false) (Fc 36 (@Z0X w.old r (by omega)) (Ftb 37 (!decide (r∈w.old)) (Fnl (Fnl (Fnl (Fnl (Fnl Fz)))))))))
theorem Zho(w:Work)(r:Int)(hw:WkOk w)(h0:0≤r∧r≤18446744073709551615)(c1:r≠0)(c2:r∉w.queue)(c3:r∈w.old)(c4:(Z0p (loadA w.heap.words r).1).2=true):GSpec Tryz.prog 159 [w.av,u64 r] false (.tu [w.av,u64 (Z0p (loadA w.heap.words r).1).1,int 0]) []:=by
 have h1:=hw.mu
 have h2:=hw.ol
 have h3:=hw.wl
 have h4:=Z0P hw.words r
 exact gF [] Tryz.func159 [] (Fh 52 [.br true] (FcG 29 (!r==0) (fun hg=>by(try simp only[bs]at hg);exact @Z0X w.queue r (by(try simp only[bs]at hg);omega)) (Ff 30 (by simp only[bs, *,true_or,or_true,true_and,and_true,not_true_eq_false,not_false_eq_true,Bool.true_eq_false,Bool.false_eq_true]:(r==0||decide (r∈w.queue))=false) (Fc 36 (@Z0X w.old r (by omega)) (Ffb 37 (!decide (r∈w.old)) (Fc 44 (@Z1K w.heap.words r (by omega) ‹_›) (Fc 49 (@Z2F ((loadA w.heap.words r).fst) (by omega) (by omega)) (Fa ‹(Z0p (loadA w.heap.words r).fst).snd=true› Fz))))))))
theorem ZgP(w:Work)(r:Int)(hw:WkOk w)(h0:0≤r∧r≤18446744073709551615)(c1:r≠0)(c2:r∉w.queue)(c3:r∈w.old)(c4:(Z0p (loadA w.heap.words r).1).2=false)(c5:(ofA w.heap.conf r).2.2≠0):GSpec Tryz.prog 159 [w.av,u64 r] false (.tu [noWork.av,u64 0,int 19]) []:=by
 have h1:=hw.mu
 have h2:=hw.ol
 have h3:=hw.wl
 have h4:=Z0P hw.words r
 exact gF [] Tryz.func159 [] (Fh 52 [.br false] (FcG 29 (!r==0) (fun hg=>by(try simp only[bs]at hg);exact @Z0X w.queue r (by(try simp only[bs]at hg);omega)) (Ff 30 (by simp only[bs, *,true_or,or_true,true_and,and_true,not_true_eq_false,not_false_eq_true,Bool.true_eq_false,Bool.false_eq_true]:(r==0||decide (r∈w.queue))=false) (Fc 36 (@Z0X w.old r (by omega)) (Ffb 37 (!decide (r∈w.old)) (Fc 44 (@Z1K w.heap.words r (by omega) ‹_›) (Fc 49 (@Z2F ((loadA w.heap.words r).fst) (by omega) (by omega)) (Fa ‹(Z0p (loadA w.heap.words r).fst).snd=false› (Fc 60 (@Z4d w.heap.conf r (by omega) (by omega)) (FlG 71 (!(ofA w.heap.conf r).snd.snd != 0) Page.dv w.heap.pages (Ftb 73 ((ofA w.heap.conf r).snd.snd != 0||decide ((↑w.heap.pages.length:Int)≤(ofA w.heap.conf r).fst)) (Fnl (Fnl (Fnl (Fnl (Fnl Fz))))))))))))))))
theorem Zl3{α:Type}(p:α→Bool):∀ (l:List α) (m:Nat),m<(l.takeWhile p).length→∃ h:m<l.length,p l[m]=true
 | [],m,h=>by simp at h
 | x::l,m,h=>by
  rw[List.takeWhile_cons]at h
  split at h
  ·rename_i hp
   cases m with
   | zero=>exact⟨by simp,hp⟩
   | succ m =>
    obtain⟨h1,h2⟩:=Zl3 p l m (by simpa using h)
    exact⟨by simp;omega,by simpa using h2⟩
  ·simp at h
theorem ZgT{α:Type}(p:α→Bool):∀ (l:List α) (h:(l.takeWhile p).length<l.length),p l[(l.takeWhile p).length]=false
 | [],h=>by simp at h
 | x::l,h=>by
  by_cases hp:p x=true
  ·have e:((x::l).takeWhile p).length=(l.takeWhile p).length+1:=by rw[List.takeWhile_cons,if_pos hp];rfl
   have:=ZgT p l (by simp only[e,List.length_cons]at h;omega)
   simp only[e,List.getElem_cons_succ]
   exact this
  ·have e:((x::l).takeWhile p).length=0:=by rw[List.takeWhile_cons,if_neg hp];rfl
   simp only[e,List.getElem_cons_zero]
   simpa using hp
theorem Z7w{l:List Page}{i m:Nat}(h:m<Z0w l i):i+1+m<l.length∧(l.getD (i+1+m) default).kind=3:=by
 obtain⟨h1,h2⟩:=Zl3 _ _ _ h
 have h3:i+1+m<l.length:=by simp at h1;omega
 refine⟨h3, ?_⟩
 simpa[List.getD_eq_getElem?_getD,h3]using h2
theorem ZeG{l:List Page}{i:Nat}(h:i+1+Z0w l i<l.length):¬ (l.getD (i+1+Z0w l i) default).kind=3:=by
 have h2:=ZgT (fun p:Page=>p.kind==3) (l.drop (i+1)) (by simp;unfold Z0w at h;omega)
 intro h3
 have h4:(l.drop (i+1))[Z0w l i]'(by simp;omega)=l.getD (i+1+Z0w l i) default:=by simp[List.getD_eq_getElem?_getD,h]
 have h5:(((l.drop (i+1))[Z0w l i]'(by simp;omega)).kind==3)=false:=h2
 rw[h4,h3]at h5
 simp at h5
theorem Zfi{l:List Page}{i:Nat}(s:Int):Z0F l i 0 s=l.set i (Zbf s (l.getD i default)):=by
 refine List.ext_getElem (by simp[Z0F]) fun j h1 h2=>?_
 have h:j<l.length:=by simpa using h2
 have e:l.getD j default=l[j]:=by simp[List.getD_eq_getElem?_getD,h]
 simp only[Z0F,List.getElem_map,List.getElem_range,List.getElem_set,e]
 by_cases hj:i=j
 ·subst hj;rw[if_pos (by omega),if_pos rfl,e]
 ·rw[if_neg (by omega),if_neg hj]
theorem Zf9{l:List Page}{i m:Nat}(s:Int)(h:i+1+m<l.length):(Z0F l i m s).set (i+1+m) (Zbf s (l.getD (i+1+m) default))=Z0F l i (m+1) s:=by
 refine List.ext_getElem (by simp[Z0F]) fun j h1 h2=>?_
 have h:j<l.length:=by simpa[Z0F]using h2
 have e:l.getD j default=l[j]:=by simp[List.getD_eq_getElem?_getD,h]
 simp only[Z0F,List.getElem_map,List.getElem_range,List.getElem_set,e]
 by_cases hj:i+1+m=j
 ·subst hj;rw[if_pos rfl,if_pos (by omega),e]
 ·rw[if_neg hj]
  by_cases hk:i≤j∧j≤i+m
  ·rw[if_pos hk,if_pos (by omega)]
  ·rw[if_neg hk,if_neg (by omega)]
theorem ZdO{l:List Page}{i m:Nat}(s:Int):(Z0F l i m s).getD (i+1+m) default=l.getD (i+1+m) default:=by
 by_cases h:i+1+m<l.length
 ·rw[Z1w h,if_neg (by omega)]
 ·rw[List.getD_eq_getElem?_getD,List.getD_eq_getElem?_getD,List.getElem?_eq_none (by rw[Z1v];omega),List.getElem?_eq_none (by omega)]
def fwdL(w:Work)(r x:Int)(m:Nat):Tg:=⟨tm 202 [(1,u64 r),(2,.pt 8002 0 0),(4,.pt 8004 0 0),(5,u64 0),(6,int 0),(14,int (x+1+m))],[(88094,.arr 56 4 ((Z0F w.heap.pages x.toNat m (1-w.heap.space)).map Page.dv)),(8002,.box 176 [int w.heap.conf.pw,int w.heap.conf.pg,Z02 w.heap.words,.ow 88094,int w.heap.space,int w.heap.bump,Z02 w.old,Z0T w.taken,Z02 w.queue,int w.scanned,int w.rep.copied,int w.rep.kept,int w.rep.filled,int w.rep.freed,int w.rep.cleared,int w.rep.steps]),(8004,.box 176 [int 0,int 0,.d (.sl 0 []),.d (.sl 0 []),int 0,int 0,.d (.sl 0 []),.d (.sl 0 []),.d (.sl 0 []),int 0,int 0,int 0,int 0,int 0,int 0,int 0])],60⟩
theorem Zi6(w:Work)(r x:Int)(m:Nat)(hs:w.heap.space=0∨w.heap.space=1)(hl:w.heap.pages.length≤1048576)(hx:0≤x)(hm:m<Z0w w.heap.pages x.toNat):CSpec Tryz.prog (rndF Tryz.f159 0) (fwdL w r x m).st .nrm (fwdL w r x (m+1)).st:=by
 have ht:=Z7w hm
 have ha:=ZdO (l:=w.heap.pages) (i:=x.toNat) (m:=m) (1-w.heap.space)
 have hn:=Z1v w.heap.pages x.toNat m (1-w.heap.space)
 have hq:=Zf9 (1-w.heap.space) ht.1
 unfold Zbf at hq
 rw[← ha]at hq ht
 have eN:x.toNat+1+m=(x+1+(m:Int)).toNat:=by omega
 have eI:((x.toNat+1+m:Nat):Int)=x+1+(m:Int):=by omega
 rw[eN]at ha hq ht
 exact sF [] [false,false,false,false,false,false,false,false,false,false,false,false,false,true,true] (Fh 122 [.el ((Z0F w.heap.pages x.toNat m (1-w.heap.space)).getD (x+1+(↑m:Int)).toNat default).dv] (Fl 113 Page.dv (Z0F w.heap.pages x.toNat m ((1:Int)-w.heap.space)) (Fa (by intro hg;(try simp only[bs]at hg);(simp only[List.length_map];omega):decide (x+1+(↑m:Int)<(↑(Z0F w.heap.pages x.toNat m (1-w.heap.space)).length:Int))=true→0≤x+1+(↑m:Int)∧(x+1+(↑m:Int)).toNat<(List.map Page.dv (Z0F w.heap.pages x.toNat m (1-w.heap.space))).length) (Fa (by intro hg;(try simp only[bs]at hg);exact Z1D (by omega):decide (x+1+(↑m:Int)<(↑(Z0F w.heap.pages x.toNat m (1-w.heap.space)).length:Int))=true→(List.map Page.dv (Z0F w.heap.pages x.toNat m (1-w.heap.space)))[(x+1+(↑m:Int)).toNat]? = some ((Z0F w.heap.pages x.toNat m (1-w.heap.space)).getD (x+1+(↑m:Int)).toNat default).dv) (Ftb 124 (decide (x+1+(↑m:Int)<(↑(Z0F w.heap.pages x.toNat m (1-w.heap.space)).length:Int))&&((Z0F w.heap.pages x.toNat m (1-w.heap.space)).getD (x+1+(↑m:Int)).toNat default).kind==3) (Fi 134 (1-w.heap.space) (Fa (by(simp only[List.length_map];omega):0≤x+1+(↑m:Int)∧(x+1+(↑m:Int)).toNat<(List.map Page.dv (Z0F w.heap.pages x.toNat m (1-w.heap.space))).length) (Fa (by exact Z1D (by omega):(List.map Page.dv (Z0F w.heap.pages x.toNat m (1-w.heap.space)))[(x+1+(↑m:Int)).toNat]? = some ((Z0F w.heap.pages x.toNat m (1-w.heap.space)).getD (x+1+(↑m:Int)).toNat default).dv) (FS 10136 Page.dv (Z0F w.heap.pages x.toNat m (1-w.heap.space)) ((x+1+(↑m:Int)).toNat) (Page.mk ((Z0F w.heap.pages x.toNat m (1-w.heap.space)).getD (x+1+(↑m:Int)).toNat default).kind (1-w.heap.space) ((Z0F w.heap.pages x.toNat m (1-w.heap.space)).getD (x+1+(↑m:Int)).toNat default).used ((Z0F w.heap.pages x.toNat m (1-w.heap.space)).getD (x+1+(↑m:Int)).toNat default).pins) (((Z0F w.heap.pages x.toNat m (1-w.heap.space)).getD (x+1+(↑m:Int)).toNat default).dv) (Fi 126 (x+1+(↑m:Int)+1) (Fo (x+1+(↑m:Int)+1=x+1+(↑(m+1):Int)) (Fr (56:Int) (Fa (by refine congrArg _ ?_;exact hq:List.map Page.dv ((Z0F w.heap.pages x.toNat m (1-w.heap.space)).set (x+1+(↑m:Int)).toNat (Page.mk ((Z0F w.heap.pages x.toNat m (1-w.heap.space)).getD (x+1+(↑m:Int)).toNat default).kind (1-w.heap.space) ((Z0F w.heap.pages x.toNat m (1-w.heap.space)).getD (x+1+(↑m:Int)).toNat default).used ((Z0F w.heap.pages x.toNat m (1-w.heap.space)).getD (x+1+(↑m:Int)).toNat default).pins))=List.map Page.dv (Z0F w.heap.pages x.toNat (m+1) (1-w.heap.space))) Fz)))))))))))))
theorem Zm6(w:Work)(r x:Int)(hl:w.heap.pages.length≤1048576)(hx:0≤x):CSpec Tryz.prog (rndF Tryz.f159 0) (fwdL w r x (Z0w w.heap.pages x.toNat)).st (.ext 0) (Tg.st ⟨tm 202 [(1,u64 r),(2,.pt 8002 0 0),(4,.pt 8004 0 0),(5,u64 0),(6,int 0)],[(88094,.arr 56 4 ((Z0F w.heap.pages x.toNat (Z0w w.heap.pages x.toNat) (1-w.heap.space)).map Page.dv)),(8002,.box 176 [int w.heap.conf.pw,int w.heap.conf.pg,Z02 w.heap.words,.ow 88094,int w.heap.space,int w.heap.bump,Z02 w.old,Z0T w.taken,Z02 w.queue,int w.scanned,int w.rep.copied,int w.rep.kept,int w.rep.filled,int w.rep.freed,int w.rep.cleared,int w.rep.steps]),(8004,.box 176 [int 0,int 0,.d (.sl 0 []),.d (.sl 0 []),int 0,int 0,.d (.sl 0 []),.d (.sl 0 []),.d (.sl 0 []),int 0,int 0,int 0,int 0,int 0,int 0,int 0])],60⟩):=by
 have ht:=fun h=>ZeG (l:=w.heap.pages) (i:=x.toNat) h
 have ha:=ZdO (l:=w.heap.pages) (i:=x.toNat) (m:=Z0w w.heap.pages x.toNat) (1-w.heap.space)
 have hn:=Z1v w.heap.pages x.toNat (Z0w w.heap.pages x.toNat) (1-w.heap.space)
 have eN:x.toNat+1+Z0w w.heap.pages x.toNat=(x+1+(Z0w w.heap.pages x.toNat:Int)).toNat:=by omega
 rw[← ha,eN]at ht
 exact sF [] [] (Fh 122 [.el ((Z0F w.heap.pages x.toNat (Z0w w.heap.pages x.toNat) (1-w.heap.space)).getD (x+1+(↑(Z0w w.heap.pages x.toNat):Int)).toNat default).dv] (Fl 113 Page.dv (Z0F w.heap.pages x.toNat (Z0w w.heap.pages x.toNat) ((1:Int)-w.heap.space)) (Fa (by intro hg;(try simp only[bs]at hg);(simp only[List.length_map];omega):decide (x+1+(↑(Z0w w.heap.pages x.toNat):Int)<(↑(Z0F w.heap.pages x.toNat (Z0w w.heap.pages x.toNat) (1-w.heap.space)).length:Int))=true→0≤x+1+(↑(Z0w w.heap.pages x.toNat):Int)∧(x+1+(↑(Z0w w.heap.pages x.toNat):Int)).toNat<(List.map Page.dv (Z0F w.heap.pages x.toNat (Z0w w.heap.pages x.toNat) (1-w.heap.space))).length) (Fa (by intro hg;(try simp only[bs]at hg);exact Z1D (by omega):decide (x+1+(↑(Z0w w.heap.pages x.toNat):Int)<(↑(Z0F w.heap.pages x.toNat (Z0w w.heap.pages x.toNat) (1-w.heap.space)).length:Int))=true→(List.map Page.dv (Z0F w.heap.pages x.toNat (Z0w w.heap.pages x.toNat) (1-w.heap.space)))[(x+1+(↑(Z0w w.heap.pages x.toNat):Int)).toNat]? = some ((Z0F w.heap.pages x.toNat (Z0w w.heap.pages x.toNat) (1-w.heap.space)).getD (x+1+(↑(Z0w w.heap.pages x.toNat):Int)).toNat default).dv) (Ffb 124 (decide (x+1+(↑(Z0w w.heap.pages x.toNat):Int)<(↑(Z0F w.heap.pages x.toNat (Z0w w.heap.pages x.toNat) (1-w.heap.space)).length:Int))&&((Z0F w.heap.pages x.toNat (Z0w w.heap.pages x.toNat) (1-w.heap.space)).getD (x+1+(↑(Z0w w.heap.pages x.toNat):Int)).toNat default).kind==3) Fz)))))
section
variable (w:Work) (r:Int) (hw:WkOk w) (h0:0≤r∧r≤18446744073709551615) (c1:r≠0) (c2:r∉w.queue) (c3:r∈w.old) (c4:(Z0p (loadA w.heap.words r).1).2=false) (c5:(ofA w.heap.conf r).2.2=0)
include hw h0 c1 c2 c3 c4 c5
theorem ZfI(c6:Z1h w (ofA w.heap.conf r).1=true):GSpec Tryz.prog 159 [w.av,u64 r] false (.tu [(w.keep r).av,u64 r,int 0]) []:=by
 have h1:=hw.mu
 have h2:=hw.ol
 have h3:=hw.wl
 have h4:=Z0P hw.words r
 have h11:=Z2c (loadA w.heap.words r).1 h4.1
 have h5:=hw.pl
 have h6:=validB_iff.1 hw.conf
 have h7:=hw.tl
 have h8:=Z3w hw.conf c5
 have Q0 {h_ c_ p_} (r_:Fq h_ c_ p_):=FcG 29 (!r==0) (fun hg=>by(try simp only[bs]at hg);exact @Z0X w.queue r (by(try simp only[bs]at hg);omega)) r_
 rcases bb (r==0||decide (r∈w.queue))with hc0 | hc0<;>have hc0p:=hc0<;>simp only[bs]at hc0p
 ·exact gF [] Tryz.func159 [false,false,false,false,true] (Q0 (Ft 30 hc0 (Fr w.heap.conf.pw (Fr w.heap.conf.pg (Fr (List.map wdv w.heap.words) (Fr (List.map Page.dv w.heap.pages) (Fr w.heap.space (Fr w.heap.bump (Fr (List.map wdv w.old) (Fr (List.map idv w.taken) (Fa (by refine congrArg _ ?_;grind[]:List.map wdv w.queue=List.map wdv (w.keep r).queue) (Fr w.scanned (Fr w.rep.copied (Fa (by grind[]:w.rep.kept=(w.keep r).rep.kept) (Fr w.rep.filled (Fr w.rep.freed (Fr w.rep.cleared (Fr w.rep.steps (Fr r (Fr (0:Int) Fz))))))))))))))))))))
 ·obtain⟨hc0pa,hc0pb⟩:=hc0p
  exact gF [] Tryz.func159 [] (Fh 73 [.br false] (Fh 77 [.call true (Sx.bool (Z1h w (ofA w.heap.conf r).fst)) [],.br true] (Q0 (Ff 30 hc0 (Fc 36 (@Z0X w.old r (by omega)) (Ffb 37 (!decide (r∈w.old)) (Fc 44 (@Z1K w.heap.words r (by omega) ‹_›) (Fc 49 (@Z2F ((loadA w.heap.words r).fst) (by omega) (by omega)) (Fa ‹(Z0p (loadA w.heap.words r).fst).snd=false› (Fc 60 (@Z4d w.heap.conf r (by omega) (by omega)) (FlG 71 (!(ofA w.heap.conf r).snd.snd != 0) Page.dv w.heap.pages (Ffb 52 ((ofA w.heap.conf r).snd.snd != 0||decide ((↑w.heap.pages.length:Int)≤(ofA w.heap.conf r).fst)) (Fa (@Z1T w ((ofA w.heap.conf r).fst) (by omega) (by omega)) (Fa ‹Z1h w (ofA w.heap.conf r).fst=true› (Fc 80 (@Zbj w r ‹_›) Fz)))))))))))))))
theorem ZfK(c6:Z1h w (ofA w.heap.conf r).1=false)(c7:¬ (w.heap.pages.getD (Z1b w r) default).kind=2)(c8:(w.place (sizeH (hdW w r))).2.2=false):GSpec Tryz.prog 159 [w.av,u64 r] false (.tu [noWork.av,u64 0,int 3]) []:=by
 have h1:=hw.mu
 have h2:=hw.ol
 have h3:=hw.wl
 have h4:=Z0P hw.words r
 have h11:=Z2c (loadA w.heap.words r).1 h4.1
 have h5:=hw.pl
 have h6:=validB_iff.1 hw.conf
 have h7:=hw.tl
 have h8:=Z3w hw.conf c5
 have h9:=Z5L w r
 unfold Z1b at c7
 unfold hdW at h9 c8
 have Q0 {h_ c_ p_} (r_:Fq h_ c_ p_):=FcG 29 (!r==0) (fun hg=>by(try simp only[bs]at hg);exact @Z0X w.queue r (by(try simp only[bs]at hg);omega)) r_
 rcases bb (r==0||decide (r∈w.queue))with hc0 | hc0<;>have hc0p:=hc0<;>simp only[bs]at hc0p
 ·exact gF [] Tryz.func159 [false,false,false,false,true] (Q0 (Ft 30 hc0 (Fa (by grind[noWork,noHeap]:w.heap.conf.pw=0) (Fa (by grind[noWork,noHeap]:w.heap.conf.pg=0) (Fa (by refine congrArg _ ?_;grind[noWork,noHeap]:List.map wdv w.heap.words=List.map wdv noWork.heap.words) (Fa (by refine congrArg _ ?_;grind[noWork,noHeap]:List.map Page.dv w.heap.pages=List.map Page.dv noWork.heap.pages) (Fa (by grind[noWork,noHeap]:w.heap.space=0) (Fa (by grind[noWork,noHeap]:w.heap.bump=0) (Fa (by refine congrArg _ ?_;grind[noWork,noHeap]:List.map wdv w.old=List.map wdv noWork.old) (Fa (by refine congrArg _ ?_;grind[noWork,noHeap]:List.map idv w.taken=List.map idv noWork.taken) (Fa (by refine congrArg _ ?_;grind[noWork,noHeap]:List.map wdv w.queue=List.map wdv noWork.queue) (Fa (by grind[noWork,noHeap]:w.scanned=0) (Fa (by grind[noWork,noHeap]:w.rep.copied=0) (Fa (by grind[noWork,noHeap]:w.rep.kept=0) (Fa (by grind[noWork,noHeap]:w.rep.filled=0) (Fa (by grind[noWork,noHeap]:w.rep.freed=0) (Fa (by grind[noWork,noHeap]:w.rep.cleared=0) (Fa (by grind[noWork,noHeap]:w.rep.steps=0) (Fa (by grind[noWork,noHeap]:r=0) (Fa (by grind[noWork,noHeap]:(0:Int)=3) Fz))))))))))))))))))))
 ·obtain⟨hc0pa,hc0pb⟩:=hc0p
  exact gF [] Tryz.func159 [] (Fh 77 [.call true (Sx.bool (Z1h w (ofA w.heap.conf r).fst)) [],.br false] (Fh 89 [.br false] (Q0 (Ff 30 hc0 (Fc 36 (@Z0X w.old r (by omega)) (Ffb 37 (!decide (r∈w.old)) (Fc 44 (@Z1K w.heap.words r (by omega) ‹_›) (Fc 49 (@Z2F ((loadA w.heap.words r).fst) (by omega) (by omega)) (Fa ‹(Z0p (loadA w.heap.words r).fst).snd=false› (Fc 60 (@Z4d w.heap.conf r (by omega) (by omega)) (FlG 71 (!(ofA w.heap.conf r).snd.snd != 0) Page.dv w.heap.pages (Ffb 52 ((ofA w.heap.conf r).snd.snd != 0||decide ((↑w.heap.pages.length:Int)≤(ofA w.heap.conf r).fst)) (Fa (@Z1T w ((ofA w.heap.conf r).fst) (by omega) (by omega)) (Fa ‹Z1h w (ofA w.heap.conf r).fst=false› (Fe 86 Page.dv w.heap.pages ((ofA w.heap.conf r).fst) (Ffb 73 ((w.heap.pages.getD (ofA w.heap.conf r).fst.toNat default).kind==2) (Fc 143 (@Z2E ((loadA w.heap.words r).fst) (by omega) (by omega)) (Fc 147 (@Z1l ((decodeH (loadA w.heap.words r).fst).fst) ‹_›) (Fc 151 (@Z9o w (sizeH (decodeH (loadA w.heap.words r).fst).fst) ‹_› ‹_›) (Ftb 156 (!(w.place (sizeH (decodeH (loadA w.heap.words r).fst).fst)).snd.snd) (Fnl (Fnl (Fnl (Fnl (Fnl Fz)))))))))))))))))))))))))
theorem Zgu(c6:Z1h w (ofA w.heap.conf r).1=false)(c7:¬ (w.heap.pages.getD (Z1b w r) default).kind=2)(c8:(w.place (sizeH (hdW w r))).2.2=true):GSpec Tryz.prog 159 [w.av,u64 r] false (.tu [((w.place (sizeH (hdW w r))).1.copy r (w.place (sizeH (hdW w r))).2.1 (sizeH (hdW w r))).av,u64 (w.place (sizeH (hdW w r))).2.1,int 0]) []:=by
 have h1:=hw.mu
 have h2:=hw.ol
 have h3:=hw.wl
 have h4:=Z0P hw.words r
 have h11:=Z2c (loadA w.heap.words r).1 h4.1
 have h5:=hw.pl
 have h6:=validB_iff.1 hw.conf
 have h7:=hw.tl
 have h8:=Z3w hw.conf c5
 have h9:=Z5L w r
 have h10:=hw.rk
 obtain⟨i,p,t,d1,d2,d3,d4,d4',d5,d6,d7,d8,d9,e⟩:=Z5w hw h9.1 c8
 have e1:=congrArg (fun w=>w.heap.words) e
 have e2:=congrArg (fun w=>w.queue) e
 have e3:=congrArg (fun w=>w.rep) e
 have e3c:=congrArg (fun w=>w.rep.copied) e
 simp only at e1 e2 e3 e3c
 have l1:=ZdH w.heap.words (w.place (sizeH (hdW w r))).2.1 r (sizeH (hdW w r))
 unfold Z1b at c7
 unfold hdW at *
 have Q0 {h_ c_ p_} (r_:Fq h_ c_ p_):=FcG 29 (!r==0) (fun hg=>by(try simp only[bs]at hg);exact @Z0X w.queue r (by(try simp only[bs]at hg);omega)) r_
 rcases bb (r==0||decide (r∈w.queue))with hc0 | hc0<;>have hc0p:=hc0<;>simp only[bs]at hc0p
 ·exact gF [] Tryz.func159 [false,false,false,false,true] (Q0 (Ft 30 hc0 (Fa (by grind[Work.copy]:w.heap.conf.pw=((w.place (sizeH (decodeH (loadA w.heap.words r).fst).fst)).fst.copy r (w.place (sizeH (decodeH (loadA w.heap.words r).fst).fst)).snd.fst (sizeH (decodeH (loadA w.heap.words r).fst).fst)).heap.conf.pw) (Fa (by grind[Work.copy]:w.heap.conf.pg=((w.place (sizeH (decodeH (loadA w.heap.words r).fst).fst)).fst.copy r (w.place (sizeH (decodeH (loadA w.heap.words r).fst).fst)).snd.fst (sizeH (decodeH (loadA w.heap.words r).fst).fst)).heap.conf.pg) (Fa (by refine congrArg _ ?_;grind[Work.copy]:List.map wdv w.heap.words=List.map wdv ((w.place (sizeH (decodeH (loadA w.heap.words r).fst).fst)).fst.copy r (w.place (sizeH (decodeH (loadA w.heap.words r).fst).fst)).snd.fst (sizeH (decodeH (loadA w.heap.words r).fst).fst)).heap.words) (Fa (by refine congrArg _ ?_;grind[Work.copy]:List.map Page.dv w.heap.pages=List.map Page.dv ((w.place (sizeH (decodeH (loadA w.heap.words r).fst).fst)).fst.copy r (w.place (sizeH (decodeH (loadA w.heap.words r).fst).fst)).snd.fst (sizeH (decodeH (loadA w.heap.words r).fst).fst)).heap.pages) (Fa (by grind[Work.copy]:w.heap.space=((w.place (sizeH (decodeH (loadA w.heap.words r).fst).fst)).fst.copy r (w.place (sizeH (decodeH (loadA w.heap.words r).fst).fst)).snd.fst (sizeH (decodeH (loadA w.heap.words r).fst).fst)).heap.space) (Fa (by grind[Work.copy]:w.heap.bump=((w.place (sizeH (decodeH (loadA w.heap.words r).fst).fst)).fst.copy r (w.place (sizeH (decodeH (loadA w.heap.words r).fst).fst)).snd.fst (sizeH (decodeH (loadA w.heap.words r).fst).fst)).heap.bump) (Fa (by refine congrArg _ ?_;grind[Work.copy]:List.map wdv w.old=List.map wdv ((w.place (sizeH (decodeH (loadA w.heap.words r).fst).fst)).fst.copy r (w.place (sizeH (decodeH (loadA w.heap.words r).fst).fst)).snd.fst (sizeH (decodeH (loadA w.heap.words r).fst).fst)).old) (Fa (by refine congrArg _ ?_;grind[Work.copy]:List.map idv w.taken=List.map idv ((w.place (sizeH (decodeH (loadA w.heap.words r).fst).fst)).fst.copy r (w.place (sizeH (decodeH (loadA w.heap.words r).fst).fst)).snd.fst (sizeH (decodeH (loadA w.heap.words r).fst).fst)).taken) (Fa (by refine congrArg _ ?_;grind[Work.copy]:List.map wdv w.queue=List.map wdv ((w.place (sizeH (decodeH (loadA w.heap.words r).fst).fst)).fst.copy r (w.place (sizeH (decodeH (loadA w.heap.words r).fst).fst)).snd.fst (sizeH (decodeH (loadA w.heap.words r).fst).fst)).queue) (Fa (by grind[Work.copy]:w.scanned=((w.place (sizeH (decodeH (loadA w.heap.words r).fst).fst)).fst.copy r (w.place (sizeH (decodeH (loadA w.heap.words r).fst).fst)).snd.fst (sizeH (decodeH (loadA w.heap.words r).fst).fst)).scanned) (Fa (by grind[Work.copy]:w.rep.copied=((w.place (sizeH (decodeH (loadA w.heap.words r).fst).fst)).fst.copy r (w.place (sizeH (decodeH (loadA w.heap.words r).fst).fst)).snd.fst (sizeH (decodeH (loadA w.heap.words r).fst).fst)).rep.copied) (Fa (by grind[Work.copy]:w.rep.kept=((w.place (sizeH (decodeH (loadA w.heap.words r).fst).fst)).fst.copy r (w.place (sizeH (decodeH (loadA w.heap.words r).fst).fst)).snd.fst (sizeH (decodeH (loadA w.heap.words r).fst).fst)).rep.kept) (Fa (by grind[Work.copy]:w.rep.filled=((w.place (sizeH (decodeH (loadA w.heap.words r).fst).fst)).fst.copy r (w.place (sizeH (decodeH (loadA w.heap.words r).fst).fst)).snd.fst (sizeH (decodeH (loadA w.heap.words r).fst).fst)).rep.filled) (Fa (by grind[Work.copy]:w.rep.freed=((w.place (sizeH (decodeH (loadA w.heap.words r).fst).fst)).fst.copy r (w.place (sizeH (decodeH (loadA w.heap.words r).fst).fst)).snd.fst (sizeH (decodeH (loadA w.heap.words r).fst).fst)).rep.freed) (Fa (by grind[Work.copy]:w.rep.cleared=((w.place (sizeH (decodeH (loadA w.heap.words r).fst).fst)).fst.copy r (w.place (sizeH (decodeH (loadA w.heap.words r).fst).fst)).snd.fst (sizeH (decodeH (loadA w.heap.words r).fst).fst)).rep.cleared) (Fa (by grind[Work.copy]:w.rep.steps=((w.place (sizeH (decodeH (loadA w.heap.words r).fst).fst)).fst.copy r (w.place (sizeH (decodeH (loadA w.heap.words r).fst).fst)).snd.fst (sizeH (decodeH (loadA w.heap.words r).fst).fst)).rep.steps) (Fa (by grind[Work.copy]:r=(w.place (sizeH (decodeH (loadA w.heap.words r).fst).fst)).snd.fst) (Fr (0:Int) Fz))))))))))))))))))))
 ·obtain⟨hc0pa,hc0pb⟩:=hc0p
  exact gF [] Tryz.func159 [] (Fh 77 [.call true (Sx.bool (Z1h w (ofA w.heap.conf r).fst)) [],.br false] (Fh 156 [.br false] (Fh 192 [.els (List.map wdv ((w.place (sizeH (decodeH (loadA w.heap.words r).fst).fst)).fst.queue++[(w.place (sizeH (decodeH (loadA w.heap.words r).fst).fst)).snd.fst]))] (Q0 (Ff 30 hc0 (Fc 36 (@Z0X w.old r (by omega)) (Ffb 37 (!decide (r∈w.old)) (Fc 44 (@Z1K w.heap.words r (by omega) ‹_›) (Fc 49 (@Z2F ((loadA w.heap.words r).fst) (by omega) (by omega)) (Fa ‹(Z0p (loadA w.heap.words r).fst).snd=false› (Fc 60 (@Z4d w.heap.conf r (by omega) (by omega)) (FlG 71 (!(ofA w.heap.conf r).snd.snd != 0) Page.dv w.heap.pages (Ffb 52 ((ofA w.heap.conf r).snd.snd != 0||decide ((↑w.heap.pages.length:Int)≤(ofA w.heap.conf r).fst)) (Fa (@Z1T w ((ofA w.heap.conf r).fst) (by omega) (by omega)) (Fa ‹Z1h w (ofA w.heap.conf r).fst=false› (Fe 86 Page.dv w.heap.pages ((ofA w.heap.conf r).fst) (Ffb 73 ((w.heap.pages.getD (ofA w.heap.conf r).fst.toNat default).kind==2) (Fc 143 (@Z2E ((loadA w.heap.words r).fst) (by omega) (by omega)) (Fc 147 (@Z1l ((decodeH (loadA w.heap.words r).fst).fst) ‹_›) (Fc 151 (@Z9o w (sizeH (decodeH (loadA w.heap.words r).fst).fst) ‹_› ‹_›) (Ffb 89 (!(w.place (sizeH (decodeH (loadA w.heap.words r).fst).fst)).snd.snd) (Fc 165 (@ZiP ((w.place (sizeH (decodeH (loadA w.heap.words r).fst).fst)).fst.heap.words) ((w.place (sizeH (decodeH (loadA w.heap.words r).fst).fst)).snd.fst) r (sizeH (decodeH (loadA w.heap.words r).fst).fst) (by grind[Work.copy]) (by omega) ‹_›) (Fc 172 (@ZcK ((w.place (sizeH (decodeH (loadA w.heap.words r).fst).fst)).snd.fst) (by omega) (by omega)) (Fc 181 (@Z8k ((moveA (w.place (sizeH (decodeH (loadA w.heap.words r).fst).fst)).fst.heap.words (w.place (sizeH (decodeH (loadA w.heap.words r).fst).fst)).snd.fst r (sizeH (decodeH (loadA w.heap.words r).fst).fst)).fst) r (4*(w.place (sizeH (decodeH (loadA w.heap.words r).fst).fst)).snd.fst+2) (by grind[Work.copy]) ‹_›) (Fs 186 (List.map wdv []) (Fa (by grind[Work.copy]:(List.map wdv []).length+(List.map wdv (w.place (sizeH (decodeH (loadA w.heap.words r).fst).fst)).fst.queue).length≤2^30) (Fs 189 (List.map wdv (w.place (sizeH (decodeH (loadA w.heap.words r).fst).fst)).fst.queue) (Fs 191 (List.map wdv [(w.place (sizeH (decodeH (loadA w.heap.words r).fst).fst)).snd.fst]) (Fa (by grind[Work.copy]:(List.map wdv (w.place (sizeH (decodeH (loadA w.heap.words r).fst).fst)).fst.queue).length+(List.map wdv [(w.place (sizeH (decodeH (loadA w.heap.words r).fst).fst)).snd.fst]).length≤2^30) (Fa (by simp[Work.copy,List.map_take,List.map_drop,List.map_set,List.map_append,wdv,idv]:List.map wdv (w.place (sizeH (decodeH (loadA w.heap.words r).fst).fst)).fst.queue++List.map wdv [(w.place (sizeH (decodeH (loadA w.heap.words r).fst).fst)).snd.fst]=List.map wdv ((w.place (sizeH (decodeH (loadA w.heap.words r).fst).fst)).fst.queue++[(w.place (sizeH (decodeH (loadA w.heap.words r).fst).fst)).snd.fst])) (Fi 197 ((w.place (sizeH (decodeH (loadA w.heap.words r).fst).fst)).fst.rep.copied+1) Fz)))))))))))))))))))))))))))))))
end
end Go.Proofs.YtjflpmnenhdeeaaGreat
