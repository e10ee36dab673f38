/-
 The statement WalkJoins: part 9.
 Conditions: none.
-/
import Derived.Test.YtjflpmnenhdeeaaGreatD8
set_option maxRecDepth 100000
set_option maxHeartbeats 2000000
set_option linter.all false
namespace Go.Proofs.YtjflpmnenhdeeaaGreat
open Go.Sx
def Heap.dvs(h:Heap):List DV:=[.sc (.int .i64 h.conf.pw),.sc (.int .i64 h.conf.pg),.sl 1 (h.words.map wdv),.sl 4 (h.pages.map Page.dv),.sc (.int .i64 h.space),.sc (.int .i64 h.bump)]
theorem Zf4(h:Heap)(a:Int)(hl:h.words.length≤1048576)(h0:0≤a∧a≤18446744073709551615):GSpec Tryz.prog 127 [.rp [.sc (.int .i64 h.conf.pw),.sc (.int .i64 h.conf.pg),.sl 1 (h.words.map wdv),.sl 4 (h.pages.map Page.dv),.sc (.int .i64 h.space),.sc (.int .i64 h.bump)] 0,.rp [.sc (.int .u64 a)] 0] true (u64 (loadA h.words a).1) []:=by
 exact gF [] Tryz.func127 [] (Fc 9 (@Zhy h.words a ‹_› ‹_›) Fz)
theorem Z1U(h:Heap)(a:Int)(hl:h.words.length≤1048576)(h0:0≤a∧a≤18446744073709551615):LentSpec Tryz.prog 127 [.pt 0 0 0,.pt 1 0 0] [.box 28 h.cells,.box 39 [u64 a]] (u64 (loadA h.words a).1) [.box 28 h.cells,.box 39 [u64 a]] :=
 Zj1 (e0:=h.dvs) (e1:=[.sc (.int .u64 a)]) rfl (Zf4 h a hl h0)
theorem ZeH(h:Heap)(a:Int)(hw:WOk h.words)(h0:0≤a∧a≤18446744073709551615):GSpec Tryz.prog 95 [h.av,u64 a] true (.tu [(atH h a).1.av,int (atH h a).2]) []:=by
 have hv:=Z0P hw a
 have hm:=Z2c (loadA h.words a).1 hv.1
 by_cases hp:Z03 h=true
 ·have po:=Z09 hp
  by_cases ho:(ofA h.conf a).2.2=0
  ·have oo:=Z3w po.1 ho
   have hz:(decodeH (loadA h.words a).1).2=true→sizeH (decodeH (loadA h.words a).1).1=(decodeH (loadA h.words a).1).1.length+1∧0≤(decodeH (loadA h.words a).1).1.length∧(decodeH (loadA h.words a).1).1.length≤255:=fun e=>by
    have hv:=Z6A e
    have:=validH_iff.1 hv
    rw[sizeH,if_pos hv]
    omega
   have pp:=Z0I hp (j:=(ofA h.conf a).1.toNat) (by omega)
   by_cases c3:((h.pages.getD (ofA h.conf a).1.toNat default).kind=1∨(h.pages.getD (ofA h.conf a).1.toNat default).kind=2)∧(ofA h.conf a).2.1<(h.pages.getD (ofA h.conf a).1.toNat default).used∧(decodeH (loadA h.words a).1).2=true
   ·have hz':=hz c3.2.2
    by_cases c4:((h.pages.getD (ofA h.conf a).1.toNat default).kind=1∧(h.pages.getD (ofA h.conf a).1.toNat default).used<(ofA h.conf a).2.1+sizeH (decodeH (loadA h.words a).1).1)∨((h.pages.getD (ofA h.conf a).1.toNat default).kind=2∧((ofA h.conf a).2.1≠0∨sizeH (decodeH (loadA h.words a).1).1≠(h.pages.getD (ofA h.conf a).1.toNat default).used))
    ·have e7:atH h a=(Z0S,19):=by rw[atH,if_pos hp,if_pos ho,if_pos c3,if_pos c4]
     rw[e7]
     have Q0 {h_ c_ p_} (r_:Fq h_ c_ p_):=Fc 15 (@Z0N h) (Ffb 16 (!Z03 h) (Fc 22 (@Z3I h.conf a (by omega) (by omega)) (Ffb 27 ((ofA h.conf a).snd.snd != 0) (Fe 34 Page.dv h.pages ((ofA h.conf a).fst) (Fp 38 (@Z1U h a (by omega) ‹_›) (Fc 39 (@Z19 ((loadA h.words a).fst) (by omega) (by omega)) (Fc 43 (@Z0Z ((decodeH (loadA h.words a).fst).fst) ‹_›) r_)))))))
     rcases bb (!(decodeH (loadA h.words a).fst).snd||decide ((h.pages.getD (ofA h.conf a).fst.toNat default).used≤(ofA h.conf a).snd.fst))with hc0 | hc0<;>have hc0p:=hc0<;>simp only[bs]at hc0p
     ·exact gF [] Tryz.func95 [] (Fh 44 [.br true] (Q0 (Fa hc0 Fz)))
     ·obtain⟨hc0pa,hc0pb⟩:=hc0p
      rcases bb ((h.pages.getD (ofA h.conf a).fst.toNat default).kind==1)with hc1 | hc1<;>have hc1p:=hc1<;>simp only[bs]at hc1p
      ·exact gF [] Tryz.func95 [] (Fh 44 [.br false] (Fh 76 [.br true] (Q0 (Fa hc0 (Fa hc1 (Fi 61 ((h.pages.getD (ofA h.conf a).fst.toNat default).used-(ofA h.conf a).snd.fst) (Ftb 53 (!decide (sizeH (decodeH (loadA h.words a).fst).fst≤(h.pages.getD (ofA h.conf a).fst.toNat default).used-(ofA h.conf a).snd.fst)) Fz)))))))
      ·exact gF [] Tryz.func95 [] (Fh 44 [.br false] (Fh 53 [.br false] (Fh 76 [.br true] (Q0 (Fa hc0 (Fa hc1 (Fb (((h.pages.getD (ofA h.conf a).fst.toNat default).kind==2)=true) (Ftb 63 (!((ofA h.conf a).snd.fst==0&&sizeH (decodeH (loadA h.words a).fst).fst==(h.pages.getD (ofA h.conf a).fst.toNat default).used)) Fz))))))))
    ·have e7:atH h a=((decodeH (loadA h.words a).1).1,0):=by rw[atH,if_pos hp,if_pos ho,if_pos c3,if_neg c4]
     rw[e7]
     have Q1 {h_ c_ p_} (r_:Fq h_ c_ p_):=Fc 15 (@Z0N h) (Ffb 16 (!Z03 h) (Fc 22 (@Z3I h.conf a (by omega) (by omega)) (Ffb 27 ((ofA h.conf a).snd.snd != 0) (Fe 34 Page.dv h.pages ((ofA h.conf a).fst) (Fp 38 (@Z1U h a (by omega) ‹_›) (Fc 39 (@Z19 ((loadA h.words a).fst) (by omega) (by omega)) (Fc 43 (@Z0Z ((decodeH (loadA h.words a).fst).fst) ‹_›) r_)))))))
     rcases bb (!(decodeH (loadA h.words a).fst).snd||decide ((h.pages.getD (ofA h.conf a).fst.toNat default).used≤(ofA h.conf a).snd.fst))with hc0 | hc0<;>have hc0p:=hc0<;>simp only[bs]at hc0p
     ·exact gF [] Tryz.func95 [false,false,false,false,true] (Fh 44 [.br true] (Q1 (Fa hc0 (Fa (by grind[Z0S]:0=(decodeH (loadA h.words a).fst).fst.kind) (Fa (by grind[Z0S]:0=(decodeH (loadA h.words a).fst).fst.length) (Fa (by grind[Z0S]:0=(decodeH (loadA h.words a).fst).fst.map) (Fa (by grind[Z0S]:(19:Int)=0) Fz)))))))
     ·obtain⟨hc0pa,hc0pb⟩:=hc0p
      rcases bb ((h.pages.getD (ofA h.conf a).fst.toNat default).kind==1)with hc1 | hc1<;>have hc1p:=hc1<;>simp only[bs]at hc1p
      ·exact gF [] Tryz.func95 [] (Fh 53 [.br true] (Fh 76 [.br false] (Q1 (Fa hc0 (Fa hc1 (Fi 61 ((h.pages.getD (ofA h.conf a).fst.toNat default).used-(ofA h.conf a).snd.fst) (Ffb 44 (!decide (sizeH (decodeH (loadA h.words a).fst).fst≤(h.pages.getD (ofA h.conf a).fst.toNat default).used-(ofA h.conf a).snd.fst)) Fz)))))))
      ·exact gF [] Tryz.func95 [] (Fh 53 [.br false] (Fh 63 [.br true] (Fh 76 [.br false] (Q1 (Fa hc0 (Fa hc1 (Fb (((h.pages.getD (ofA h.conf a).fst.toNat default).kind==2)=true) (Ffb 44 (!((ofA h.conf a).snd.fst==0&&sizeH (decodeH (loadA h.words a).fst).fst==(h.pages.getD (ofA h.conf a).fst.toNat default).used)) Fz))))))))
   ·have e7:atH h a=(Z0S,19):=by rw[atH,if_pos hp,if_pos ho,if_neg c3]
    rw[e7]
    have Q2 {h_ c_ p_} (r_:Fq h_ c_ p_):=Fc 15 (@Z0N h) (Ffb 16 (!Z03 h) (Fc 22 (@Z3I h.conf a (by omega) (by omega)) (Ffb 27 ((ofA h.conf a).snd.snd != 0) (Fe 34 Page.dv h.pages ((ofA h.conf a).fst) (Fp 38 (@Z1U h a (by omega) ‹_›) (Fc 39 (@Z19 ((loadA h.words a).fst) (by omega) (by omega)) (Fc 43 (@Z0Z ((decodeH (loadA h.words a).fst).fst) ‹_›) r_)))))))
    rcases bb (!(decodeH (loadA h.words a).fst).snd||decide ((h.pages.getD (ofA h.conf a).fst.toNat default).used≤(ofA h.conf a).snd.fst))with hc0 | hc0<;>have hc0p:=hc0<;>simp only[bs]at hc0p
    ·exact gF [] Tryz.func95 [] (Fh 44 [.br true] (Q2 (Fa hc0 Fz)))
    ·obtain⟨hc0pa,hc0pb⟩:=hc0p
     rcases bb ((h.pages.getD (ofA h.conf a).fst.toNat default).kind==1)with hc1 | hc1<;>have hc1p:=hc1<;>simp only[bs]at hc1p
     ·have Q3 {h_ c_ p_} (r_:Fq h_ c_ p_):=Q2 (Fa hc0 (Fa hc1 (Fi 61 ((h.pages.getD (ofA h.conf a).fst.toNat default).used-(ofA h.conf a).snd.fst) r_)))
      rcases bb (!decide (sizeH (decodeH (loadA h.words a).fst).fst≤(h.pages.getD (ofA h.conf a).fst.toNat default).used-(ofA h.conf a).snd.fst))with hc2 | hc2<;>have hc2p:=hc2<;>simp only[bs]at hc2p
      ·exact gF [] Tryz.func95 [] (Fh 44 [.br false] (Fh 76 [.br true] (Q3 (Ft 53 hc2 Fz))))
      ·exact gF [] Tryz.func95 [false,false,false,false,true] (Fh 53 [.br true] (Fh 76 [.br false] (Q3 (Ff 44 hc2 (Fa (by grind[Z0S]:(decodeH (loadA h.words a).fst).fst.kind=0) (Fa (by grind[Z0S]:(decodeH (loadA h.words a).fst).fst.length=0) (Fa (by grind[Z0S]:(decodeH (loadA h.words a).fst).fst.map=0) (Fa (by grind[Z0S]:(0:Int)=19) Fz))))))))
     ·rcases bb ((h.pages.getD (ofA h.conf a).fst.toNat default).kind==2)with hc3 | hc3<;>have hc3p:=hc3<;>simp only[bs]at hc3p
      ·rcases bb (!((ofA h.conf a).snd.fst==0&&sizeH (decodeH (loadA h.words a).fst).fst==(h.pages.getD (ofA h.conf a).fst.toNat default).used))with hc4 | hc4<;>have hc4p:=hc4<;>simp only[bs]at hc4p
       ·exact gF [] Tryz.func95 [] (Fh 44 [.br false] (Fh 53 [.br false] (Fh 76 [.br true] (Q2 (Fa hc0 (Fa hc1 (Fa hc3 (Ft 63 hc4 Fz))))))))
       ·obtain⟨hc4pa,hc4pb⟩:=hc4p
        exact gF [] Tryz.func95 [false,false,false,false,false,false,false,false,true] (Fh 53 [.br false] (Fh 63 [.br true] (Fh 76 [.br false] (Q2 (Fa hc0 (Fa hc1 (Fa hc3 (Ff 44 hc4 (Fa (by grind[Z0S]:(decodeH (loadA h.words a).fst).fst.kind=0) (Fa (by grind[Z0S]:(decodeH (loadA h.words a).fst).fst.length=0) (Fa (by grind[Z0S]:(decodeH (loadA h.words a).fst).fst.map=0) (Fa (by grind[Z0S]:(0:Int)=19) Fz))))))))))))
      ·exact gF [] Tryz.func95 [] (Fh 44 [.br false] (Fh 53 [.br false] (Fh 63 [.br false] (Q2 (Fa hc0 (Fa hc1 (Fa hc3 Fz)))))))
  ·have e7:atH h a=(Z0S,2):=by rw[atH,if_pos hp,if_neg ho]
   have e2:(ofA h.conf a).2.2=2:=by
    unfold ofA at ho ⊢
    rw[if_pos po.1]at ho ⊢
    split at ho
    ·simp at ho
    ·rename_i q;rw[if_neg q]
   rw[e7]
   exact gF [] Tryz.func95 [true] (Fc 15 (@Z0N h) (Ffb 16 (!Z03 h) (Fc 22 (@Z3I h.conf a (by omega) (by omega)) (Ftb 27 ((ofA h.conf a).snd.snd != 0) (Fr (0:Int) (Fr (0:Int) (Fr (0:Int) (Fa ‹(ofA h.conf a).snd.snd=2› Fz))))))))
 ·have e7:atH h a=(Z0S,1):=by rw[atH,if_neg hp]
  have hp':Z03 h=false:=by simpa using hp
  rw[e7]
  exact gF [] Tryz.func95 [] (Fc 15 (@Z0N h) (Ftb 16 (!Z03 h) Fz))
def pg(h:Heap)(i:Int):Page:=h.pages.getD i.toNat default
def adr(h:Heap)(i o:Int):Int:=(address h.conf i o).1
theorem Z3F{h:Heap}(hv:Z07 h.conf=true)(i o:Int):0≤adr h i o∧adr h i o≤8192:=by
 have ha:=area hv
 unfold adr address
 rw[if_pos hv]
 split
 ·rename_i hb
  have hb:=inB_iff.1 hb
  have:=ZdU hv hb.1 hb.2.1 hb.2.2.1 hb.2.2.2
  simp only;omega
 ·simp
def Z2O(h:Heap)(i:Int):Nat→Int→Option (List Int)
 | 0,_=>some []
 | f+1,o=>if o<(pg h i).used then(if(atH h (adr h i o)).2=0 then(if(pg h i).kind=2 then some [adr h i o]else(Z2O h i f (o+sizeH (atH h (adr h i o)).1)).map (adr h i o :: ·))else none)else some []
def Z8h(h:Heap)(i o:Int)(acc:List Int):Tg:=⟨tm 70 [(1,int i),(2,.pt 8002 0 0),(4,.d (.sl 0 [])),(5,int 0),(6,.pt 32006 0 0),(7,.ow 48007),(8,int o)],
 [(48007,.arr 39 1 (acc.map wdv)),(32006,.box 56 [int (pg h i).kind,int (pg h i).space,int (pg h i).used,int (pg h i).pins]),(8002,.box 28 h.cells)],60⟩
def Z9h(acc:List Int):Tg:=⟨tm 70 [(7,.ow 48007)],[(48007,.arr 39 1 (acc.map wdv))],60⟩
section
variable (h:Heap) (i o:Int) (acc:List Int) (hw:WOk h.words) (hp:Z03 h=true) (hl:acc.length≤1048576) (ho:0≤o∧o≤1000)
include hw hp hl ho
theorem Zgd(h1:o<(pg h i).used)(h2:(atH h (adr h i o)).2=0)(h3:(pg h i).kind≠2):CSpec Tryz.prog (rndF Tryz.f80 0) (Z8h h i o acc).st .nrm (Z8h h i (o+sizeH (atH h (adr h i o)).1) (acc++[adr h i o])).st:=by
 have po:=Z09 hp
 have ar:=Z3F po.1 i o
 have sz:=Z1E (atH h (adr h i o)).1
 have hm:=Z3A hw (adr h i o)
 unfold adr at ar sz hm h2
 exact sF [(512061,48007)] [] (Fh 61 [.els (List.map wdv (acc++[(address h.conf i o).fst]))] (Ftb 41 (decide (o<(pg h i).used)) (Fc 47 (@Z4Q h.conf i o) (Fc 53 (@Z3d h ((address h.conf i o).fst) ‹_› (by omega)) (Ffb 57 ((atH h (address h.conf i o).fst).snd != 0) (Fs 60 (List.map wdv [(address h.conf i o).fst]) (Fa (by(simp[adr, *];omega):(List.map wdv acc).length+(List.map wdv [(address h.conf i o).fst]).length≤2^30) (Fa (by simp[adr,List.map_take,List.map_drop,List.map_set,List.map_append,wdv,idv]:List.map wdv acc++List.map wdv [(address h.conf i o).fst]=List.map wdv (acc++[(address h.conf i o).fst])) (Ffb 64 ((pg h i).kind==2) (Fc 67 (@Z1l ((atH h (address h.conf i o).fst).fst) ‹_›) (Fi 68 (o+sizeH (atH h (address h.conf i o).fst).fst) Fz)))))))))))
theorem ZeI(h1:o<(pg h i).used)(h2:(atH h (adr h i o)).2=0)(h3:(pg h i).kind=2):CSpec Tryz.prog (rndF Tryz.f80 0) (Z8h h i o acc).st (.ext 0) (Z9h (acc++[adr h i o])).st:=by
 have po:=Z09 hp
 have ar:=Z3F po.1 i o
 have hm:=Z3A hw (adr h i o)
 unfold adr at ar hm h2
 exact sF [(512061,48007)] [] (Fh 61 [.els (List.map wdv (acc++[(address h.conf i o).fst]))] (Ftb 41 (decide (o<(pg h i).used)) (Fc 47 (@Z4Q h.conf i o) (Fc 53 (@Z3d h ((address h.conf i o).fst) ‹_› (by omega)) (Ffb 57 ((atH h (address h.conf i o).fst).snd != 0) (Fs 60 (List.map wdv [(address h.conf i o).fst]) (Fa (by(simp[adr, *];omega):(List.map wdv acc).length+(List.map wdv [(address h.conf i o).fst]).length≤2^30) (Fa (by simp[adr,List.map_take,List.map_drop,List.map_set,List.map_append,wdv,idv]:List.map wdv acc++List.map wdv [(address h.conf i o).fst]=List.map wdv (acc++[(address h.conf i o).fst])) (Ftb 64 ((pg h i).kind==2) Fz)))))))))
theorem Zip(h1:o<(pg h i).used)(h2:¬ (atH h (adr h i o)).2=0):CSpec Tryz.prog (rndF Tryz.f80 0) (Z8h h i o acc).st .ret (Tg.st ⟨tm 70 [(4,.d (.sl 0 [])),(5,int 19)],[],60⟩):=by
 have po:=Z09 hp
 have ar:=Z3F po.1 i o
 unfold adr at ar h2
 exact sF [] [] (Ftb 41 (decide (o<(pg h i).used)) (Fc 47 (@Z4Q h.conf i o) (Fc 53 (@Z3d h ((address h.conf i o).fst) ‹_› (by omega)) (Ftb 57 ((atH h (address h.conf i o).fst).snd != 0) Fz))))
omit hw hp hl ho in
theorem ZdG(h1:(pg h i).used≤o):CSpec Tryz.prog (rndF Tryz.f80 0) (Z8h h i o acc).st (.ext 0) (Z9h acc).st:=by
 exact sF [] [] (Ffb 41 (decide (o<(pg h i).used)) Fz)
end
theorem ZbF{h:Heap}{a:Int}(e:(atH h a).2=0):1≤sizeH (atH h a).1:=by
 have:=Ze3 e
 rw[sizeH,if_pos this.2.2.2.2.1]
 omega
theorem Zgp(h:Heap)(i:Int)(hw:WOk h.words)(hp:Z03 h=true)(hu:(pg h i).used≤256):∀ (f:Nat) (o:Int) (acc:List Int),(pg h i).used-o≤f→0≤o→o≤1000→(acc.length:Int)+f≤1000 →
  (∀ l,Z2O h i f o=some l→LSpec Tryz.prog Tryz.f80 0 (Z8h h i o acc).st (.ext 0) (Z9h (acc++l)).st) ∧
  (Z2O h i f o=none→LSpec Tryz.prog Tryz.f80 0 (Z8h h i o acc).st .ret (Tg.st ⟨tm 70 [(4,.d (.sl 0 [])),(5,int 19)],[],60⟩)):=by
 intro f
 induction f with
 | zero =>
  intro o acc h1 h2 h3 h4
  refine⟨fun l hl=>?_,fun hl=>by cases hl⟩
  simp only[Z2O,Option.some.injEq]at hl
  subst hl
  rw[List.append_nil]
  exact .endx (ZdG h i o acc (by omega))
 | succ f ih =>
  intro o acc h1 h2 h3 h4
  unfold Z2O
  by_cases ho:o<(pg h i).used
  ·rw[if_pos ho]
   by_cases ha:(atH h (adr h i o)).2=0
   ·rw[if_pos ha]
    by_cases hk:(pg h i).kind=2
    ·rw[if_pos hk]
     refine⟨fun l hl=>?_,fun hl=>by cases hl⟩
     cases hl
     exact .endx (ZeI h i o acc hw hp (by omega) ⟨h2,by omega⟩ ho ha hk)
    ·rw[if_neg hk]
     have hs:=ZbF ha
     have hb:=Z1E (atH h (adr h i o)).1
     have hr:=Zgd h i o acc hw hp (by omega) ⟨h2,by omega⟩ ho ha hk
     obtain⟨i1,i2⟩:=ih (o+sizeH (atH h (adr h i o)).1) (acc++[adr h i o]) (by omega) (by omega) (by omega) (by simp;omega)
     refine⟨fun l hl=>?_,fun hl=>?_⟩
     ·rw[Option.map_eq_some_iff]at hl
      obtain⟨m,hm,rfl⟩:=hl
      have:=i1 m hm
      rw[List.append_assoc]at this
      exact .next hr this
     ·rw[Option.map_eq_none_iff]at hl
      exact .next hr (i2 hl)
   ·rw[if_neg ha]
    exact⟨fun l hl=>(by cases hl),fun _=>.endr (Zip h i o acc hw hp (by omega) ⟨h2,by omega⟩ ho ha)⟩
  ·rw[if_neg ho]
   refine⟨fun l hl=>?_,fun hl=>by cases hl⟩
   cases hl
   rw[List.append_nil]
   exact .endx (ZdG h i o acc (by omega))
theorem ZgZ(h:Heap)(i:Int)(l:List Int)(hw:WOk h.words)(hp:Z03 h=true)(hu:(pg h i).used≤256)(hl:Z2O h i 256 0=some l):CSpec Tryz.prog (blkF Tryz.f80 0) (Tg.st ⟨tm 70 [(1,int i),(2,.pt 8002 0 0),(4,.d (.sl 0 [])),(5,int 0),(6,.pt 32006 0 0),(7,.ow 48007),(8,int 0)],
 [(48007,.arr 39 1 []),(32006,.box 56 [int (h.pages.getD i.toNat default).kind,int (h.pages.getD i.toNat default).space,int (h.pages.getD i.toNat default).used,int (h.pages.getD i.toNat default).pins]),(8002,.box 28 h.cells)],60⟩) .nrm (Z9h l).st :=
 ((Zgp h i hw hp hu 256 0 [] (by omega) (by omega) (by omega) (by simp)).1 l hl).ext (by kernel_rfl)
theorem ZbR(h:Heap)(i:Int)(hw:WOk h.words)(hp:Z03 h=true)(hu:(pg h i).used≤256)(hl:Z2O h i 256 0=none):CSpec Tryz.prog (blkF Tryz.f80 0) (Tg.st ⟨tm 70 [(1,int i),(2,.pt 8002 0 0),(4,.d (.sl 0 [])),(5,int 0),(6,.pt 32006 0 0),(7,.ow 48007),(8,int 0)],
 [(48007,.arr 39 1 []),(32006,.box 56 [int (h.pages.getD i.toNat default).kind,int (h.pages.getD i.toNat default).space,int (h.pages.getD i.toNat default).used,int (h.pages.getD i.toNat default).pins]),(8002,.box 28 h.cells)],60⟩) .ret (Tg.st ⟨tm 70 [(4,.d (.sl 0 [])),(5,int 19)],[],60⟩) :=
 ((Zgp h i hw hp hu 256 0 [] (by omega) (by omega) (by omega) (by simp)).2 hl).ret (by kernel_rfl)
def Z0r(h:Heap)(i:Int):List Int×Int :=
 if Z03 h=true then(if 0≤i∧i<h.pages.length then(if(pg h i).kind=0∨(pg h i).kind=3 then([],0)else(match Z2O h i 256 0 with | some l=>(l,0) | none=>([],19)))else([],2))else([],1)
theorem Z3o(h:Heap)(i:Int)(hw:WOk h.words):GSpec Tryz.prog 80 [h.av,int i] false (.tu [Z02 (Z0r h i).1,int (Z0r h i).2]) []:=by
 cases hp:Z03 h with
 | false =>
  have e7:Z0r h i=([],1):=by rw[Z0r,if_neg (by rw[hp];simp)]
  rw[e7]
  exact gF [] Tryz.func80 [false] (Fc 14 (@Z0l h) (Ftb 15 (!Z03 h) (Fnl Fz)))
 | true =>
  have po:=Z09 hp
  by_cases hi:0≤i∧i<h.pages.length
  ·have pp:=Z0I hp (j:=i.toNat) (by omega)
   have hu:(pg h i).used≤256:=pp.2.2.2.2.2.2.2.1
   cases hwk:Z2O h i 256 0 with
   | none =>
    have e7:Z0r h i=if(h.pages.getD i.toNat default).kind=0∨(h.pages.getD i.toNat default).kind=3 then([],0)else([],19):=by rw[Z0r,if_pos hp,if_pos hi,hwk];rfl
    have Q0 {h_ c_ p_} (r_:Fq h_ c_ p_):=Fc 14 (@Z0l h) (Ffb 15 (!Z03 h) (FlG 22 (!decide (i<0)) Page.dv h.pages (Ffb 24 (decide (i<0)||decide ((↑h.pages.length:Int)≤i)) (Fe 28 Page.dv h.pages i r_))))
    rcases bb ((h.pages.getD i.toNat default).kind==0||(h.pages.getD i.toNat default).kind==3)with hc0 | hc0<;>have hc0p:=hc0<;>simp only[bs]at hc0p
    ·exact gF [] Tryz.func80 [false,false,false,false,false,false,false,false,true] (Q0 (Ft 37 hc0 (Fnl (Fa (by rw[e7,if_pos (by omega)];rfl:[]=List.map wdv (Z0r h i).fst) (Fa (by rw[e7,if_pos (by omega)]:0=(Z0r h i).snd) Fz)))))
    ·obtain⟨hc0pa,hc0pb⟩:=hc0p
     exact gF [] Tryz.func80 [false,false,false,false,false,false,false,false,false,false,false,false,false,false,false,false,false,false,true] (Fh 7 [.own] (Q0 (Ff 37 hc0 (Fu (@ZbR h i ‹_› ‹_› ‹_› ‹_›) (Fnl (Fa (by rw[e7,if_neg (by omega)];rfl:[]=List.map wdv (Z0r h i).fst) (Fa (by rw[e7,if_neg (by omega)]:19=(Z0r h i).snd) Fz)))))))
   | some l =>
    have e7:Z0r h i=if(h.pages.getD i.toNat default).kind=0∨(h.pages.getD i.toNat default).kind=3 then([],0)else(l,0):=by rw[Z0r,if_pos hp,if_pos hi,hwk];rfl
    have Q1 {h_ c_ p_} (r_:Fq h_ c_ p_):=Fc 14 (@Z0l h) (Ffb 15 (!Z03 h) (FlG 22 (!decide (i<0)) Page.dv h.pages (Ffb 24 (decide (i<0)||decide ((↑h.pages.length:Int)≤i)) (Fe 28 Page.dv h.pages i r_))))
    rcases bb ((h.pages.getD i.toNat default).kind==0||(h.pages.getD i.toNat default).kind==3)with hc0 | hc0<;>have hc0p:=hc0<;>simp only[bs]at hc0p
    ·exact gF [] Tryz.func80 [false,false,false,false,false,false,false,false,true] (Q1 (Ft 37 hc0 (Fnl (Fa (by rw[e7,if_pos (by omega)];rfl:[]=List.map wdv (Z0r h i).fst) (Fa (by rw[e7,if_pos (by omega)]:0=(Z0r h i).snd) Fz)))))
    ·obtain⟨hc0pa,hc0pb⟩:=hc0p
     exact gF [] Tryz.func80 [false,false,false,false,false,false,false,false,false,false,false,false,false,false,false,false,false,false,true] (Fh 7 [.own] (Q1 (Ff 37 hc0 (Fu (@ZgZ h i l ‹_› ‹_› ‹_› ‹_›) (Fa (by refine congrArg _ ?_;rw[e7,if_neg (by omega)]:List.map wdv l=List.map wdv (Z0r h i).fst) (Fa (by rw[e7,if_neg (by omega)]:0=(Z0r h i).snd) Fz))))))
  ·have e7:Z0r h i=([],2):=by rw[Z0r,if_pos hp,if_neg hi]
   rw[e7]
   exact gF [] Tryz.func80 [false,false,false,false,false,false] (Fc 14 (@Z0l h) (Ffb 15 (!Z03 h) (FlG 22 (!decide (i<0)) Page.dv h.pages (Ftb 24 (decide (i<0)||decide ((↑h.pages.length:Int)≤i)) (Fnl Fz)))))
structure Found where
 addr:Int
 hd:Header
 deriving DecidableEq,Inhabited
def Found.dv(f:Found):List DV:=[.sc (.int .u64 f.addr),.sc (.int .i64 f.hd.kind),.sc (.int .i64 f.hd.length),.sc (.int .u32 f.hd.map)]
def Found.av(f:Found):AV:=.ag [u64 f.addr,int f.hd.kind,int f.hd.length,u32 f.hd.map]
def asgF(fn:Func)(n:Nat):Code:=match blkF fn n with
 | .block _ (.rangeFunc _ _ x _)=>x
 | _=>.skip
def bodF(fn:Func)(n:Nat):Code:=match blkF fn n with
 | .block _ (.rangeFunc _ _ _ x)=>x
 | _=>.skip
def lstH(pre:List Found):List (Nat×Blk):=[(8020,.arr 132 4 (pre.map Found.dv)),(6,.box 85 [.ow 8020])]
def lst1(pre:List Found)(x:Found):Tg:=⟨tm 22 [(6,.pt 6 0 0),(12,x.av),(13,int 0)],lstH pre,20⟩
def lst2(pre:List Found)(x:Found):Tg:=⟨tm 22 [(6,.pt 6 0 0),(7,.pt 160007 0 0),(8,int 0)],(160007,.box 132 [u64 x.addr,int x.hd.kind,int x.hd.length,u32 x.hd.map])::lstH pre,30⟩
theorem lstA(pre:List Found)(x:Found):CIn Tryz.prog (asgF Tryz.f47 0) (lst1 pre x).st .nrm (lst2 pre x).st:=by
 refine Z9P [] [] [] (φ:=True) ?_ (by kernel_rfl) (by kernel_rfl) (by kernel_rfl) (by kernel_rfl)
 exact trivial
theorem lstB(pre:List Found)(x:Found)(hl:pre.length≤1000):CIn Tryz.prog (bodF Tryz.f47 0) (lst2 pre x).st .nrm (Tg.st ⟨tm 22 [(6,.pt 6 0 0),(20,.ow 8020)],lstH (pre++[x]),60⟩):=by
 refine Z9P [((19:Nat),[Hint.els (List.map Found.dv [x])]),((20:Nat),[Hint.els (List.map Found.dv (pre++[x]))])] [((248020:Nat),(8020:Nat))] [] (φ:=(List.replicate (1:Nat) [du64 (0:Int),dint (0:Int),dint (0:Int),DV.sc (Value.int IntKind.u32 (0:Int))]).set ((0:Nat),Operand.tmp (18:Nat)).fst [du64 x.addr,dint x.hd.kind,dint x.hd.length,DV.sc (Value.int IntKind.u32 x.hd.map)]=List.map Found.dv [x]∧(List.map Found.dv pre).length+(List.map Found.dv [x]).length≤(2:Nat)^(30:Nat)∧List.map Found.dv pre++List.map Found.dv [x]=List.map Found.dv (pre++[x])) ?_ (by kernel_rfl) (by kernel_rfl) (by kernel_rfl) (by kernel_rfl)
 exact⟨rfl,(by(simp[*];omega)),(by simp[List.map_take,List.map_drop,List.map_set,List.map_append,wdv,idv])⟩
def Z24(l:Nat):Value:=.func (.yield l) #[] #[]
def Z2i(h:Heap)(i:Int):Nat→Int→List Found×Bool
 | 0,_=>([],true)
 | f+1,o=>if o<(pg h i).used then(if(address h.conf i o).2=0∧(atH h (adr h i o)).2=0 then(⟨adr h i o,(atH h (adr h i o)).1⟩::(Z2i h i f (o+sizeH (atH h (adr h i o)).1)).1,(Z2i h i f (o+sizeH (atH h (adr h i o)).1)).2)else([],false))else([],true)
def bdyF(fn:Func):Code:=match fn.body with
 | some c=>c
 | none=>.skip
def inE(h:Heap)(l:Nat)(i:Int):Tg:=⟨tm 58 [(0,.d (.sc (Z24 l))),(1,.rp h.dvs 0),(2,.rp [dint i] 0)],[],1⟩
def inP(h:Heap)(l:Nat)(i:Int):Tg:=⟨tm 58 [(0,.d (.sc (Z24 l))),(1,.rp h.dvs 0),(2,.rp [dint i] 0),(4,.pt 8004 0 0)],[(8004,.box 56 [int (pg h i).kind,int (pg h i).space,int (pg h i).used,int (pg h i).pins])],20⟩
theorem Zm7(h:Heap)(l:Nat)(i:Int)(hi:0≤i∧i<h.pages.length)(hk:(pg h i).kind=1∨(pg h i).kind=2):ZcG Tryz.prog 2 (bdyF Tryz.f122) (inE h l i).st (inP h l i).st:=by
 unfold inP inE pg
 unfold pg at hk
 refine Z4N [((13:Nat),[Hint.el (h.pages.getD i.toNat default).dv]),((22:Nat),[Hint.br false])] [] [] (φ:=((0:Int)≤i∧(List.map Page.dv h.pages)[i.toNat]? = some (h.pages.getD i.toNat default).dv)∧((h.pages.getD i.toNat default).kind != (1:Int)&&(h.pages.getD i.toNat default).kind != (2:Int))=false∧false=false) ?_ (by kernel_rfl) (by kernel_rfl) (by kernel_rfl) (by kernel_rfl)
 exact⟨(by exact elI (by omega) (by omega) (by omega)),(by(simp only[bs];omega)),rfl⟩
theorem ZlL(h:Heap)(l:Nat)(i:Int)(hi:0≤i∧i<h.pages.length)(hk:¬ ((pg h i).kind=1∨(pg h i).kind=2)):CSpec Tryz.prog (bdyF Tryz.f122) (inE h l i).st .ret (Tg.st ⟨tm 58 [],[],20⟩):=by
 unfold inE
 unfold pg at hk
 exact sF [] [] (Fe 13 Page.dv h.pages i (Ftb 22 ((h.pages.getD i.toNat default).kind != 1&&(h.pages.getD i.toNat default).kind != 2) Fz))
def inS(h:Heap)(l:Nat)(i o:Int):Tg:=⟨tm 58 [(0,.d (.sc (Z24 l))),(1,.rp h.dvs 0),(2,.rp [dint i] 0),(4,.rp (pg h i).dv 0),(5,int o)],[],20⟩
def inT(h:Heap)(l:Nat)(i o:Int)(a:Int)(hd:Header):Tg:=⟨tm 58 [(0,.d (.sc (Z24 l))),(1,.rp h.dvs 0),(2,.rp [dint i] 0),(4,.rp (pg h i).dv 0),(5,int o),(6,u64 a),(8,.pt 184008 0 0)],[(184008,.box 34 [int hd.kind,int hd.length,u32 hd.map])],30⟩
section
variable (h:Heap) (l:Nat) (i o:Int) (hw:WOk h.words) (hp:Z03 h=true) (ho:0≤o∧o≤1000)
include hw hp ho
theorem ZlV(h1:o<(pg h i).used)(h2:(address h.conf i o).2=0)(h3:(atH h (adr h i o)).2=0):ZcG Tryz.prog 9 (rndF Tryz.f122 0) (inS h l i o).st (inT h l i (o+sizeH (atH h (adr h i o)).1) (adr h i o) (atH h (adr h i o)).1).st:=by
 have po:=Z09 hp
 have ar:=Z3F po.1 i o
 have sz:=Z1E (atH h (adr h i o)).1
 have hm:=Z3A hw (adr h i o)
 unfold adr at ar sz hm h3
 refine Z4N [((26:Nat),[Hint.br true]),((32:Nat),[Hint.call true (Z0U h.conf i o) []]),((36:Nat),[Hint.br true]),((40:Nat),[Hint.call true (AV.tu [(atH h (address h.conf i o).fst).fst.av,int (atH h (address h.conf i o).fst).snd]) []]),((44:Nat),[Hint.br true]),((47:Nat),[Hint.call true (int (sizeH (atH h (address h.conf i o).fst).fst)) []]),((48:Nat),[Hint.int (o+sizeH (atH h (address h.conf i o).fst).fst)])] [] [] (φ:=decide (o<(pg h i).used)=true∧true=true∧GSpec Tryz.prog 38 [h.conf.av,int i,int o] true (Z0U h.conf i o) []∧((address h.conf i o).snd==(0:Int))=true∧true=true∧GSpec Tryz.prog 95 [h.av,u64 (address h.conf i o).fst] true (AV.tu [(atH h (address h.conf i o).fst).fst.av,int (atH h (address h.conf i o).fst).snd]) []∧((atH h (address h.conf i o).fst).snd==(0:Int))=true∧true=true∧GSpec Tryz.prog 37 [(atH h (address h.conf i o).fst).fst.av] true (int (sizeH (atH h (address h.conf i o).fst).fst)) []∧IntKind.i64.wrap (o+sizeH (atH h (address h.conf i o).fst).fst)=o+sizeH (atH h (address h.conf i o).fst).fst) ?_ (by kernel_rfl) (by kernel_rfl) (by kernel_rfl) (by kernel_rfl)
 exact⟨(by(simp only[bs];omega)),rfl,(@Z5F (h.conf) (i) (o)),(by(simp only[bs];omega)),rfl,(@ZeH (h) ((address h.conf i o).fst) ‹_› (by omega)),(by(simp only[bs];omega)),rfl,(@Z0Z ((atH h (address h.conf i o).fst).fst) ‹_›),(by exact wrapI2 rfl (by omega) (by omega))⟩
theorem Zlz(h1:o<(pg h i).used)(h2:¬ (address h.conf i o).2=0):ZcG Tryz.prog 10 (rndF Tryz.f122 0) (inS h l i o).st (Tg.st ⟨tm 58 [(0,.d (.sc (Z24 l)))],[],30⟩):=by
 refine Z4N [((26:Nat),[Hint.br true]),((32:Nat),[Hint.call true (Z0U h.conf i o) []]),((36:Nat),[Hint.br false])] [] [] (φ:=decide (o<(pg h i).used)=true∧true=true∧GSpec Tryz.prog 38 [h.conf.av,int i,int o] true (Z0U h.conf i o) []∧((address h.conf i o).snd==(0:Int))=false∧false=false) ?_ (by kernel_rfl) (by kernel_rfl) (by kernel_rfl) (by kernel_rfl)
 exact⟨(by(simp only[bs];omega)),rfl,(@Z5F (h.conf) (i) (o)),(by(simp only[bs];omega)),rfl⟩
theorem Zmf(h1:o<(pg h i).used)(h2:(address h.conf i o).2=0)(h3:¬ (atH h (adr h i o)).2=0):ZcG Tryz.prog 10 (rndF Tryz.f122 0) (inS h l i o).st (Tg.st ⟨tm 58 [(0,.d (.sc (Z24 l)))],[],30⟩):=by
 have po:=Z09 hp
 have ar:=Z3F po.1 i o
 unfold adr at ar h3
 refine Z4N [((26:Nat),[Hint.br true]),((32:Nat),[Hint.call true (Z0U h.conf i o) []]),((36:Nat),[Hint.br true]),((40:Nat),[Hint.call true (AV.tu [(atH h (address h.conf i o).fst).fst.av,int (atH h (address h.conf i o).fst).snd]) []]),((44:Nat),[Hint.br false])] [] [] (φ:=decide (o<(pg h i).used)=true∧true=true∧GSpec Tryz.prog 38 [h.conf.av,int i,int o] true (Z0U h.conf i o) []∧((address h.conf i o).snd==(0:Int))=true∧true=true∧GSpec Tryz.prog 95 [h.av,u64 (address h.conf i o).fst] true (AV.tu [(atH h (address h.conf i o).fst).fst.av,int (atH h (address h.conf i o).fst).snd]) []∧((atH h (address h.conf i o).fst).snd==(0:Int))=false∧false=false) ?_ (by kernel_rfl) (by kernel_rfl) (by kernel_rfl) (by kernel_rfl)
 exact⟨(by(simp only[bs];omega)),rfl,(@Z5F (h.conf) (i) (o)),(by(simp only[bs];omega)),rfl,(@ZeH (h) ((address h.conf i o).fst) ‹_› (by omega)),(by(simp only[bs];omega)),rfl⟩
omit hw hp ho in
theorem Zmk(h1:(pg h i).used≤o):CSpec Tryz.prog (rndF Tryz.f122 0) (inS h l i o).st (.ext 0) (Tg.st ⟨tm 58 [],[],30⟩):=by
 exact sF [] [] (Ffb 26 (decide (o<(pg h i).used)) Fz)
end
end Go.Proofs.YtjflpmnenhdeeaaGreat
namespace Go.Proofs.YtjflpmnenhdeeaaGreat
open Go.Sx Go.RowKit
def flt1(ids bids:List Nat):AV→Bool
 | .pt b _ _=>memN b bids
 | .ow b=>memN b ids
 | .d (.sc _)=>true
 | .any=>true
 | _=>false
def fltB(ids bids:List Nat):Blk→Bool
 | .box _ l=>l.all (flt1 ids bids)
 | .arr .. => true
 | .dead=>false
def Z4b:List (Nat×Blk)→List Nat
 | []=>[]
 | (b,.box ..)::l=>b::Z4b l
 | _::l=>Z4b l
theorem Z5d{b:Nat}:∀ {hl:List (Nat×Blk)},b∈Z4b hl→∃ ty cells,(b,Blk.box ty cells)∈hl
 | [],h=>by simp[Z4b]at h
 | (c,.box ty cells)::l,h=>by
  simp only[Z4b,List.mem_cons]at h
  rcases h with rfl | h
  ·exact⟨ty,cells,by simp⟩
  ·obtain⟨ty,cells,h⟩:=Z5d h;exact⟨ty,cells,by simp[h]⟩
 | (c,.arr ..)::l,h=>by obtain⟨ty,cells,h⟩:=Z5d (hl:=l) h;exact⟨ty,cells,by simp[h]⟩
 | (c,.dead)::l,h=>by obtain⟨ty,cells,h⟩:=Z5d (hl:=l) h;exact⟨ty,cells,by simp[h]⟩
theorem Zef{ρ ρ':Rho}{w Y:World}{Im:Nat→Prop}{ids bids:List Nat}{x:AV}{v:Value}(h:Rel ρ w Im x v)(hx:flt1 ids bids x=true)(hρ:∀ b∈bids,∀ β,ρ b=some β→ρ' b=some β)
  (ho:∀ b∈ids,∀ β,ρ b=some β→ρ' b=some β∨(ρ' b=some ⟨none,β.s,β.n⟩∧∀ g,β.g=some g→rows w g<β.s)) (hr:∀ g,rows Y g=rows w g):Rel ρ' Y (fun _=>False) x v:=by
 cases h with
 | pt h1=>exact .pt (hρ _ (memN_iff.1 hx) _ h1)
 | ow h1 h2 h3 h4 =>
  rename_i b c a β
  rcases ho _ (memN_iff.1 hx) _ h1 with k | ⟨k,k'⟩
  ·refine .ow k h2 h3 (h4.imp id fun⟨g,k1,k2,k3⟩=>⟨g,k1,k2, ?_⟩)
   rw[hr g];exact k3
  ·refine Rel.ow (β:=⟨none,β.s,β.n⟩) k h2 h3 (.inl ?_)
   rcases h4 with h4 | ⟨g,k1,_,k3⟩
   ·exact h4
   ·have:=k' g k1
    rcases Nat.eq_zero_or_pos c with h | h
    ·exact h
    ·have:=Nat.mul_le_mul_right β.s h
     omega
 | any=>exact .any _
 | d h =>
  cases h with
  | sc _ h=>exact .d (.sc _ h)
  | _=>cases hx
 | _=>cases hx
theorem Zaq{ρ:Rho}{w:World}{Im:Nat→Prop}{β:Bi}{ty g:Nat}{cells:List AV}(h:RelB ρ w Im β (.box ty cells))(hg:β.g=some g):rows w g=cells.length:=by
 obtain⟨_,_,g',cs,h1,h2,h3,_⟩:=h
 rw[hg]at h1;cases h1
 simp[rows,h2,h3]
theorem Ziv{ρ:Rho}{w:World}{Im:Nat→Prop}{β:Bi}{ty g s:Nat}{els:List (List DV)}(h:RelB ρ w Im β (.arr ty s els))(hg:β.g=some g):els.length*s≤rows w g:=by
 obtain⟨_,_,_,_,⟨h1,_⟩ | ⟨g',cs,h1,h2,h3,_⟩⟩:=h
 ·rw[hg]at h1;cases h1
 ·rw[hg]at h1;cases h1
  simpa[rows,h2]using h3
theorem Zk8{Ow Im0:Nat→Prop}{w0 w:World}{tmps:List AV}{hl:List (Nat×Blk)}{clk clk':Nat}{a:Act}(S:Sx.Sys Ow Im0 w0 tmps (hOf hl) clk a w)(hT:tmps.all (flt1 (hl.map (·.1)) (Z4b hl))=true)(hB:hl.all (fun p=>fltB (hl.map (·.1)) (Z4b hl) p.2)=true)(hN:(hl.map (·.1)).Nodup)
  (hF:∀ b ty s els,(b,Blk.arr ty s els)∈hl→Z1n els) {Y:World} {l:Nat} {r r':Loop} (hl0:w.heap[l]? = some (.loop r)) (hl1:Y.heap[l]? = some (.loop r')) (hY:Y.heap.size=w.heap.size) (hs:∀ g,g≠l→Y.heap[g]? = w.heap[g]?) (hc:1≤clk') :
  ∃ ρ:Rho,(∀ b β,ρ b=some β→b∈hl.map (·.1))∧(∀ b β g,ρ b=some β→β.g=some g→(w0.heap.size≤g∧8000≤b)∨Ow g)∧(∀ b β g,ρ b=some β→β.g=some g→β.s≤rows Y g)∧Inv (fun g=>∃ b β,ρ b=some β∧β.g=some g) (fun _=>False) Y ρ Y (fun _=>False) (hOf hl) clk'∧RelT ρ Y (fun _=>False) tmps a∧Kept Ow w0 w:=by
 obtain⟨ρ,Im,I,T⟩:=S
 let ids:=hl.map (·.1)
 let ρ':Rho:=fun b=>if memN b ids then(match ρ b with | none=>none | some β=>match β.g with | some g=>if rows w g<β.s then some ⟨none,β.s,β.n⟩else some β | none=>some β)else none
 have hout:∀ b β,ρ' b=some β→b∈ids∧∃ κ,ρ b=some κ∧κ.s=β.s∧κ.n=β.n∧∀ g,β.g=some g→κ=β∧β.s≤rows w g:=by
  intro b β h
  simp only[ρ']at h
  split at h
  rotate_left
  ·cases h
  refine⟨memN_iff.1 ‹_›, ?_⟩
  split at h
  ·cases h
  rename_i κ hκ
  refine⟨κ,hκ, ?_⟩
  split at h
  ·rename_i g hg
   split at h
   ·cases h;exact⟨rfl,rfl,fun g h=>by cases h⟩
   ·cases h;exact⟨rfl,rfl,fun g' h=>by rw[hg]at h;cases h;exact⟨rfl,by omega⟩⟩
  ·rename_i hg
   cases h;exact⟨rfl,rfl,fun g' h=>by rw[hg]at h;cases h⟩
 have hin:∀ b∈ids,∀ β,ρ b=some β→ρ' b=some β∨(ρ' b=some ⟨none,β.s,β.n⟩∧∀ g,β.g=some g→rows w g<β.s):=by
  intro b hb β h
  simp only[ρ',h]
  rw[if_pos (memN_iff.2 hb)]
  split
  ·rename_i g hg
   split
   ·exact .inr ⟨rfl,fun g' h'=>by rw[hg]at h';cases h';assumption⟩
   ·exact .inl rfl
  ·exact .inl rfl
 have hrow:∀ g,rows Y g=rows w g:=by
  intro g
  by_cases hg:g=l
  ·subst hg;simp[rows,hl0,hl1]
  ·simp only[rows,hs g hg]
 have hbox:∀ b∈Z4b hl,∀ β,ρ b=some β→ρ' b=some β:=by
  intro b hb β h
  obtain⟨ty,cells,hm⟩:=Z5d hb
  have hbi:b∈ids:=List.mem_map.2 ⟨_,hm,rfl⟩
  rcases hin b hbi β h with k | ⟨_,k⟩
  ·exact k
  ·cases hq:hOf hl b with
   | none=>exact absurd hbi (hOf_mem.2.1 hq)
   | some B =>
    have hB':B = .box ty cells:=by
     have h1:=hOf_mem.1 B hq
     obtain⟨i,hi⟩:=List.mem_iff_getElem?.1 h1
     obtain⟨j,hj⟩:=List.mem_iff_getElem?.1 hm
     have:i=j:=ZkM b hN (by simp[hi]) (by simp[hj])
     subst this
     rw[hi]at hj;cases hj;rfl
    subst hB'
    obtain⟨β',m1,m2⟩:=I.blk b _ hq
    rw[h]at m1;cases m1
    have m3:=m2
    obtain⟨h0,_,g,_,h1,_⟩:=m2
    have:=k g h1
    rw[Zaq m3 h1]at this
    omega
 have hlive:∀ b,b∈ids→live (hOf hl) b:=by
  intro b hb
  cases hq:hOf hl b with
  | none=>exact absurd hb (hOf_mem.2.1 hq)
  | some B =>
   refine⟨B,hq, ?_⟩
   rintro rfl
   have:=List.all_eq_true.1 hB _ (hOf_mem.1 _ hq)
   cases this
 have hsame:∀ b β g,ρ' b=some β→β.g=some g→ρ b=some β:=fun b β g h h'=>by
  obtain⟨_,κ,k1,_,_,k4⟩:=hout b β h
  rw[(k4 g h').1]at k1;exact k1
 refine⟨ρ',fun b β h=>(hout b β h).1,fun b β g h h'=>I.own b β g (hsame b β g h h') h',fun b β g h h'=>by
   obtain⟨_,κ,k1,_,_,k4⟩:=hout b β h
   rw[hrow];exact(k4 g h').2,⟨Kept.refl _ _,fun b b' β β' g _ _ q1 q2 q3 q4=>I.inj b b' β β' g (hlive _ (hout _ _ q1).1) (hlive _ (hout _ _ q2).1) (hsame _ _ g q1 q3) (hsame _ _ g q2 q4) q3 q4,fun _ _ _ _ _ _ h=>h,fun b β g q1 q2=>by rw[hY];exact I.bnd b β g (hsame _ _ g q1 q2) q2,fun b β g q1 q2=>.inr ⟨b,β,q1,q2⟩,fun _ h=>h.elim,fun _ h=>h.elim,fun b B q=>?_,fun b _ q=>?_,hc⟩,⟨T.size,fun i x v h1 h2=>Zef (T.tmp i x v h1 h2) (List.all_eq_true.1 hT _ (List.mem_of_getElem? h1)) hbox hin hrow,T.defers⟩,I.kept⟩
 ·have hm:=hOf_mem.1 B q
  have hb:b∈ids:=List.mem_map.2 ⟨(b,B),hm,rfl⟩
  obtain⟨β,m1,m2⟩:=I.blk b B q
  have hfl:=List.all_eq_true.1 hB _ hm
  cases B with
  | dead=>cases hfl
  | box ty cells =>
   obtain⟨h0,h00,g,cs,h1,h2,h3,h3',h4⟩:=m2
   have hg:g≠l:=by rintro rfl;rw[hl0]at h2;cases h2
   have:b∈Z4b hl:=by
    have:∀ {k:List (Nat×Blk)},(b,Blk.box ty cells)∈k→b∈Z4b k:=by
     intro k
     induction k with
     | nil=>intro h;simp at h
     | cons p k ih =>
      obtain⟨c,C⟩:=p
      intro h
      rcases List.mem_cons.1 h with e | e
      ·cases e;simp[Z4b]
      ·cases C<;>simp[Z4b,ih e]
    exact this hm
   exact⟨β,hbox b this β m1,h0,h00,g,cs,h1,by rw[hs g hg];exact h2,h3,h3',fun o x v hx hv=>Zef (h4 o x v hx hv) (List.all_eq_true.1 hfl _ (List.mem_of_getElem? hx)) hbox hin hrow⟩
  | arr ty s els =>
   have m3:=m2
   obtain⟨h0,h1,hb',h2,h3⟩:=m2
   rcases hin b hb β m1 with k | ⟨k,k'⟩
   ·refine⟨β,k,h0,h1,hb',h2,h3.imp id fun⟨g,cs,h4,h5,h6,h7⟩=>?_⟩
    have hg:g≠l:=by rintro rfl;rw[hl0]at h5;cases h5
    refine⟨g,cs,h4,by rw[hs g hg];exact h5,h6,fun i e o x hx hy=>?_⟩
    obtain⟨v,h8,h9⟩:=h7 i e o x hx hy
    exact⟨v,h8,Z9N (hF _ _ _ _ hm) (List.mem_of_getElem? hx) (List.mem_of_getElem? hy) h9⟩
   ·refine⟨_,k,h0,h1,hb',h2,.inl ⟨rfl, ?_⟩⟩
    rcases h3 with⟨_,h⟩ | ⟨g,_,h4,_⟩
    ·exact h
    ·have e1:=k' g h4
     have e2:=Ziv m3 h4
     rw[h0]at e1
     cases els with
     | nil=>rfl
     | cons y ys =>
      have:1*s≤(y::ys).length*s:=Nat.mul_le_mul_right s (by simp)
      omega
 ·have:b∉ids:=hOf_mem.2.1 q
  simp only[ρ']
  rw[if_neg (fun h=>this (memN_iff.1 h))]
def Z5h(f:Found):Value:=.agg #[.int .u64 f.addr,.int .i64 f.hd.kind,.int .i64 f.hd.length,.int .u32 f.hd.map]
def encF(f:Found)(e:Int):Array Value := #[Z5h f,.int .i64 e]
theorem Z9x(ρ:Rho)(w:World)(Im:Nat→Prop)(f:Found):Rel ρ w Im f.av (Z5h f):=by
 refine .ag _ _ rfl (fun i v h=>?_) (fun i a v ha hv=>?_)
 ·rcases i with _ | _ | _ | _ | i<;>simp at h<;>subst h<;>rfl
 ·rcases i with _ | _ | _ | _ | i<;>simp at ha hv<;>subst ha<;>subst hv<;>exact .d (.sc _ rfl)
theorem Zin(l:List Found):Z1n (l.map Found.dv):=by
 intro e he x hx
 obtain⟨f,_,rfl⟩:=List.mem_map.1 he
 simp only[Found.dv,List.mem_cons,List.not_mem_nil,or_false]at hx
 rcases hx with rfl | rfl | rfl | rfl<;>exact⟨_,rfl⟩
def LJ(g6:Nat)(prot:List (Nat×Obj))(A:Nat→Prop)(pre:List Found)(W:World):Prop :=
 ∃ ρ:Rho,(∀ g,A g↔∃ b β,ρ b=some β∧β.g=some g)∧Inv (fun g=>∃ b β,ρ b=some β∧β.g=some g) (fun _=>False) W ρ W (fun _=>False) (hOf (lstH pre)) 20∧(∃ s n,ρ 6=some ⟨some g6,s,n⟩)∧(∀ b β,ρ b=some β→b∈[8020,6])∧(∀ b β g,ρ b=some β→β.g=some g→β.s≤rows W g)∧∀ p∈prot,W.heap[p.1]? = some p.2∧¬ A p.1
theorem LJ.keep{g6:Nat}{prot:List (Nat×Obj)}{A:Nat→Prop}{pre:List Found}{X Y:World}(J:LJ g6 prot A pre X)(K:Kept (fun _=>False) X Y):LJ g6 prot A pre Y:=by
 obtain⟨ρ,hA,I,h6,hs,hr,hp⟩:=J
 have he:Ext (fun _=>False) X Y:=⟨K.size,fun g h=>h.elim,K.rows⟩
 refine⟨ρ,hA,⟨Kept.refl _ _,I.inj,fun _ _ _ _ _ _ h=>h,fun b β g q1 q2=>Nat.lt_of_lt_of_le (I.bnd b β g q1 q2) K.size,fun b β g q1 q2=>.inr ⟨b,β,q1,q2⟩,fun _ h=>h.elim,fun _ h=>h.elim,fun b B q=>?_,I.fresh,I.one⟩,h6,hs,fun b β g q1 q2=>?_,fun p hpp=>⟨?_,(hp p hpp).2⟩⟩
 ·obtain⟨β,m1,m2⟩:=I.blk b B q
  exact⟨β,m1,m2.mono he (fun _ h=>h) (fun _ _ h=>h) I.bnd (fun g hg=>K.block g (I.bnd b β g m1 hg) (fun h=>h))⟩
 ·rw[K.rows g (I.bnd _ _ _ q1 q2)];exact hr b β g q1 q2
 ·have h1:=(hp p hpp).1
  rw[K.block p.1 (Array.getElem?_eq_some_iff.1 h1).1 (fun h=>h)];exact h1
theorem Zha{fn:Nat}{a0:Array Value}{D l g6 n:Nat}{prot:List (Nat×Obj)}{A:Nat→Prop}{pre:List Found}{W:World}(hl:pre.length≤1000)(ha0:a0.size=22)(ha6:a0[6]? = some (.pointer (some ⟨g6,0,none⟩)))
  (hrec:(l,Obj.loop { state:=.ready,pending:=none,fn:=fn,tmps:=a0,params := #[12,13],assign:=asgF Tryz.f47 0,body:=bodF Tryz.f47 0,defers:=D })∈prot) (J:LJ g6 prot A pre W) (x:Found) :
  YieldAt Fence.wide n Tryz.prog l (encF x 0) W fun e W'=>e = .returned (.bool true)∧∃ A',LJ g6 prot A' (pre++[x]) W'∧(∀ g,A' g→A g∨W.heap.size≤g)∧Kept A W W':=by
 obtain⟨ρ,hA,I,⟨s6,n6,h6⟩,hs,hr,hp⟩:=J
 obtain⟨rl,nl⟩:=hp _ hrec
 have hAe:(fun g=>∃ b β,ρ b=some β∧β.g=some g)=A:=by funext g;exact propext (hA g).symm
 have I':=I
 rw[hAe]at I'
 refine⟨fn,_,_,_,run_yield rl rfl,roundIn_of_wpIn trivial ?_⟩
 have T0:RelT ρ W (fun _=>False) (tm 22 [(6,.pt 6 0 0)]) { tmps:=a0,defers:=[] }:=by
  refine⟨by rw[ha0];rfl,fun i y v h1 h2=>?_,rfl⟩
  by_cases h:i=6
  ·subst h
   rw[ha6]at h2;cases h2
   cases (show(tm 22 [(6,.pt 6 0 0)])[6]? = some (.pt 6 0 0)from rfl).symm.trans h1
   have:=Rel.pt (ρ:=ρ) (w:=W) (Im:=fun _=>False) (i:=0) (o:=0) h6
   simpa using this
  ·have:y = .any:=by
    have hi:i<22:=(List.getElem?_eq_some_iff.1 h1).1
    have e:∀ j,j<22→j≠6→(tm 22 [(6,.pt 6 0 0)])[j]? = some .any:=by
     intro j hj hj6
     have:j∈[0,1,2,3,4,5,7,8,9,10,11,12,13,14,15,16,17,18,19,20,21]:=by
      simp only[List.mem_cons,List.not_mem_nil,or_false];omega
     simp only[List.mem_cons,List.not_mem_nil,or_false]at this
     rcases this with rfl | rfl | rfl | rfl | rfl | rfl | rfl | rfl | rfl | rfl | rfl | rfl | rfl | rfl | rfl | rfl | rfl | rfl | rfl | rfl | rfl<;>rfl
    rw[e i hi h]at h1;cases h1;rfl
   subst this;exact .any _
 have T1:=(T0.put 12 (Z9x ρ W (fun _=>False) x)).put 13 (Rel.d (RelD.sc (Value.int .i64 0) rfl))
 have S1:Sx.Sys A (fun _=>False) W (lst1 pre x).st.tmps (lst1 pre x).st.H (lst1 pre x).st.clk { tmps:=(a0.setIfInBounds 12 (Z5h x)).setIfInBounds 13 (.int .i64 0),defers:=[] } W:=⟨ρ,_,I',T1⟩
 have ef:((#[12,13]:Array Nat).zip (encF x 0)).foldl (fun tmps (t,a)=>tmps.setIfInBounds t a) a0=(a0.setIfInBounds 12 (Z5h x)).setIfInBounds 13 (.int .i64 0):=by simp[encF]
 show(asgF Tryz.f47 0).wpIn _ n _ _ { tmps:=((#[12,13]:Array Nat).zip (encF x 0)).foldl (fun tmps (t,a)=>tmps.setIfInBounds t a) a0,defers:=[] } W
 rw[ef]
 refine wpIn_mono (lstA pre x (some l) n _ _ _ _ _ S1) ?_
 rintro e a1 w1 ⟨rfl,S2⟩
 have K1:Kept A W w1:=by obtain⟨_,_,I1,_⟩:=S2;exact I1.kept
 have hlW:l<W.heap.size:=(Array.getElem?_eq_some_iff.1 rl).1
 have rl1:w1.heap[l]? = some (Obj.loop { state:=.ready,pending:=none,fn:=fn,tmps:=a0,params := #[12,13],assign:=asgF Tryz.f47 0,body:=bodF Tryz.f47 0,defers:=D }):=by
  rw[K1.block l hlW nl];exact rl
 refine⟨_,run_beginRound rl1 rfl, ?_⟩
 obtain⟨w2,hw2⟩:∃ w2,w1.putObj l (Obj.loop { state:=.busy,pending:=none,fn:=fn,tmps:=a0,params := #[12,13],assign:=asgF Tryz.f47 0,body:=bodF Tryz.f47 0,defers:=D })=w2:=⟨_,rfl⟩
 have rl2:w2.heap[l]? = some (Obj.loop { state:=.busy,pending:=none,fn:=fn,tmps:=a0,params := #[12,13],assign:=asgF Tryz.f47 0,body:=bodF Tryz.f47 0,defers:=D }):=by
  rw[← hw2];exact World.putObj_heap_same (Array.getElem?_eq_some_iff.1 rl1).1
 have hs2:∀ g,g≠l→w2.heap[g]? = w1.heap[g]? := fun g hg=>by rw[← hw2];exact World.putObj_heap_other hg
 have hz2:w2.heap.size=w1.heap.size:=by rw[← hw2];exact World.putObj_size
 obtain⟨ρ1,q1,q2,qr,I1,T1',_⟩:=Zk8 S2 (by kernel_rfl) (by kernel_rfl) (by show([160007,8020,6]:List Nat).Nodup;decide) (by
   intro b ty s els hm
   simp only[lst2,lstH,List.mem_cons,List.not_mem_nil,or_false,Prod.mk.injEq,reduceCtorEq,and_false,Blk.arr.injEq,false_or]at hm
   obtain⟨_,_,_,rfl⟩:=hm
   exact Zin pre) rl1 rl2 hz2 hs2 (by decide:1≤30)
 show(bodF Tryz.f47 0).wpIn _ _ _ _ _ _
 rw[hw2]
 refine wpIn_mono (lstB pre x hl (some l) n _ _ _ _ _ (⟨ρ1,_,I1,T1'⟩:Sx.Sys _ _ w2 (lst2 pre x).st.tmps (lst2 pre x).st.H (lst2 pre x).st.clk a1 w2)) ?_
 rintro e a3 w3 ⟨rfl,S3⟩
 have K3:Kept (fun g=>∃ b β,ρ1 b=some β∧β.g=some g) w2 w3:=by obtain⟨_,_,I3,_⟩:=S3;exact I3.kept
 have hrow2:∀ g,rows w2 g=rows w1 g:=by
  intro g
  by_cases hg:g=l
  ·subst hg;simp[rows,rl1,rl2]
  ·simp only[rows,hs2 g hg]
 have hw12:W.heap.size≤w1.heap.size:=K1.size
 have own1:∀ b β g,ρ1 b=some β→β.g=some g→W.heap.size≤g∨A g:=fun b β g h h'=>(q2 b β g h h').imp (·.1) id
 have hl2:¬ ∃ b β,ρ1 b=some β∧β.g=some l:=by
  rintro⟨b,β,h,h'⟩
  rcases own1 b β l h h' with k | k
  ·omega
  ·exact nl k
 have box6:∀ {ρ:Rho} {X:World} {H:List (Nat×Blk)} {t:Nat} {x:AV},Inv (fun g=>∃ b β,ρ b=some β∧β.g=some g) (fun _=>False) X ρ X (fun _=>False) (hOf H) t→hOf H 6=some (.box 85 [x])→∃ β g,ρ 6=some β∧β.g=some g∧rows X g=1:=by
  intro ρ X H t x I hH
  obtain⟨β,k1,k2⟩:=I.blk 6 _ hH
  have k3:=k2
  obtain⟨_,_,g,_,k4,_⟩:=k2
  exact⟨β,g,k1,k4,Zaq k3 k4⟩
 have arr4:∀ {ρ:Rho} {X:World} {H:List (Nat×Blk)} {t:Nat} {els:List (List DV)} {β:Bi},Inv (fun g=>∃ b β,ρ b=some β∧β.g=some g) (fun _=>False) X ρ X (fun _=>False) (hOf H) t→hOf H 8020=some (.arr 132 4 els)→ρ 8020=some β→β.s=4:=by
  intro ρ X H t els β I hH h
  obtain⟨β',k1,k2⟩:=I.blk 8020 _ hH
  rw[h]at k1;cases k1
  exact k2.1
 have id1:∀ β g,ρ1 6=some β→β.g=some g→rows w2 g=1→g=g6:=by
  intro β g h h' h1
  rcases q2 6 β g h h' with⟨_,k⟩ | k
  ·omega
  obtain⟨b,κ,k1,k2⟩:=(hA g).1 k
  have hb:=hs b κ k1
  simp only[List.mem_cons,List.not_mem_nil,or_false]at hb
  rcases hb with rfl | rfl
  ·have:=hr _ _ _ k1 k2
   rw[arr4 I rfl k1,← K1.rows g (I.bnd _ _ _ k1 k2),← hrow2,h1]at this
   omega
  ·rw[h6]at k1;cases k1;cases k2;rfl
 have rl3:w3.heap[l]? = some (Obj.loop { state:=.busy,pending:=none,fn:=fn,tmps:=a0,params := #[12,13],assign:=asgF Tryz.f47 0,body:=bodF Tryz.f47 0,defers:=D }):=by
  rw[K3.block l (by omega) hl2];exact rl2
 refine⟨_,_,run_endRound none rl3,rfl, ?_⟩
 obtain⟨W',hW'⟩:∃ W',w3.putObj l (Obj.loop { state:=.ready,pending:=none,fn:=fn,tmps:=a0,params := #[12,13],assign:=asgF Tryz.f47 0,body:=bodF Tryz.f47 0,defers:=D })=W':=⟨_,rfl⟩
 have rl4:W'.heap[l]? = some (Obj.loop { state:=.ready,pending:=none,fn:=fn,tmps:=a0,params := #[12,13],assign:=asgF Tryz.f47 0,body:=bodF Tryz.f47 0,defers:=D }):=by
  rw[← hW'];exact World.putObj_heap_same (Array.getElem?_eq_some_iff.1 rl3).1
 have hs4:∀ g,g≠l→W'.heap[g]? = w3.heap[g]? := fun g hg=>by rw[← hW'];exact World.putObj_heap_other hg
 have hz4:W'.heap.size=w3.heap.size:=by rw[← hW'];exact World.putObj_size
 have hrow4:∀ g,rows W' g=rows w3 g:=by
  intro g
  by_cases hg:g=l
  ·subst hg;simp[rows,rl3,rl4]
  ·simp only[rows,hs4 g hg]
 have hosw:W'.os=w3.os∧W'.tape=w3.tape∧W'.output=w3.output:=by rw[← hW'];exact⟨rfl,rfl,rfl⟩
 have hos2:w2.os=w1.os∧w2.tape=w1.tape∧w2.output=w1.output:=by rw[← hw2];exact⟨rfl,rfl,rfl⟩
 suffices key:∃ A',LJ g6 prot A' (pre++[x]) W'∧(∀ g,A' g→A g∨W.heap.size≤g)∧Kept A W W' by
  rw[← hW']at key;exact key
 obtain⟨ρ3,p1,p2,pr,I3,_,_⟩:=Zk8 S3 (by kernel_rfl) (by kernel_rfl) (by show([8020,6]:List Nat).Nodup;decide) (by
   intro b ty s els hm
   simp only[lstH,List.mem_cons,List.not_mem_nil,or_false,Prod.mk.injEq,reduceCtorEq,and_false,Blk.arr.injEq]at hm
   obtain⟨_,_,_,rfl⟩:=hm
   exact Zin _) rl3 rl4 hz4 hs4 (by decide:1≤20)
 have own3:∀ b β g,ρ3 b=some β→β.g=some g→A g∨W.heap.size≤g:=by
  intro b β g h h'
  rcases p2 b β g h h' with⟨k,_⟩ | ⟨c,κ,k1,k2⟩
  ·exact .inr (by omega)
  ·exact(own1 c κ g k1 k2).symm
 have keep:Kept A W W':=by
  refine⟨hosw.1.trans (K3.os.trans (hos2.1.trans K1.os)),hosw.2.1.trans (K3.tape.trans (hos2.2.1.trans K1.tape)),hosw.2.2.trans (K3.output.trans (hos2.2.2.trans K1.output)),by have:=K3.size;omega,fun k hk hn=>?_,fun k hk=>?_⟩
  ·by_cases hkl:k=l
   ·subst hkl;rw[rl4,rl]
   ·rw[hs4 k hkl,K3.block k (by omega) ?_,hs2 k hkl,K1.block k hk hn]
    rintro⟨b,β,h,h'⟩
    rcases own1 b β k h h' with q | q
    ·omega
    ·exact hn q
  ·rw[hrow4,K3.rows k (by omega),hrow2,K1.rows k hk]
 refine⟨fun g=>∃ b β,ρ3 b=some β∧β.g=some g,⟨ρ3,fun g=>Iff.rfl,I3, ?_,p1,pr,fun p hpp=>?_⟩,fun g ⟨b,β,h,h'⟩=>own3 b β g h h',keep⟩
 ·obtain⟨β,g,k1,k2,k3⟩:=box6 I3 rfl
  rcases p2 6 β g k1 k2 with⟨_,k⟩ | ⟨c,κ,m1,m2⟩
  ·omega
  have hg2:g<w2.heap.size:=I1.bnd _ _ _ m1 m2
  have hr2:rows w2 g=1:=by rw[← k3,hrow4,K3.rows g hg2]
  have hc:=q1 c κ m1
  have e:g=g6:=by
   simp only[lst2,lstH,List.map_cons,List.map_nil,List.mem_cons,List.not_mem_nil,or_false]at hc
   rcases hc with rfl | rfl | rfl
   ·obtain⟨κ',n1,n2⟩:=I1.blk 160007 _ rfl
    rw[m1]at n1;cases n1
    rw[Zaq n2 m2]at hr2
    simp at hr2
   ·have:=qr _ _ _ m1 m2
    rw[arr4 I1 rfl m1,hr2]at this
    omega
   ·exact id1 κ g m1 m2 hr2
  subst e
  obtain⟨βg,βs,βn⟩:=β
  cases k2
  exact⟨βs,βn,k1⟩
 ·obtain⟨h1,h2⟩:=hp p hpp
  have hpl:=(Array.getElem?_eq_some_iff.1 h1).1
  refine⟨by rw[keep.block p.1 hpl h2];exact h1, ?_⟩
  rintro⟨b,β,h,h'⟩
  rcases own3 b β p.1 h h' with q | q
  ·exact h2 q
  ·omega
end Go.Proofs.YtjflpmnenhdeeaaGreat
namespace Go.Proofs.YtjflpmnenhdeeaaGreat
open Go.Sx Go.RowKit
def Z2b(h:Heap)(i:Int):List Found×Bool:=if(pg h i).kind=1∨(pg h i).kind=2 then Z2i h i 256 0 else([],true)
def noFound:Found:=⟨0,⟨0,0,0⟩⟩
structure Rnd (l n:Nat) (J:(Nat→Prop)→List Found→World→Prop) (Jx:World→Prop):Prop where
 keep:∀ A pre X Y,J A pre X→Kept (fun _=>False) X Y→J A pre Y
 bnd:∀ A pre X,J A pre X→∀ g,A g→g<X.heap.size
 yes:∀ A pre X x,J A pre X→pre.length≤1000→YieldAt Fence.wide n Tryz.prog l (encF x 0) X fun e X'=>e = .returned (.bool true)∧∃ A',J A' (pre++[x]) X'∧(∀ g,A' g→A g∨X.heap.size≤g)∧Kept A X X'
 no:∀ A pre X,J A pre X→pre.length≤1000→YieldAt Fence.wide n Tryz.prog l (encF noFound 19) X fun e X'=>e = .returned (.bool false)∧Jx X'
section
variable (h:Heap) (i:Int) (l n:Nat) {J:(Nat→Prop)→List Found→World→Prop} {Jx:World→Prop} (R:Rnd l n J Jx)
def InL(J:(Nat→Prop)→List Found→World→Prop)(a:Act)(w:World):Prop :=
 ∃ (pre:List Found) (A Im:Nat→Prop) (f:Nat) (o:Int),(Z2b h i).1=pre++(Z2i h i f o).1∧(Z2b h i).2=(Z2i h i f o).2∧(pg h i).used-o≤f∧0≤o∧o≤1000∧pre.length+f≤256∧J A pre w∧RelT (fun _=>none) w Im (inS h l i o).tmps a∧∀ g,Im g→g<w.heap.size∧¬ A g
def inMu(a:Act):Nat:=match (a.tmps.getD 5 undef:Value)with
 | .int _ o=>((pg h i).used-o).toNat
 | _=>0
theorem ZgJ{w:World}{Im:Nat→Prop}{a:Act}{o:Int}(T:RelT (fun _=>none) w Im (inS h l i o).tmps a):inMu h i a=((pg h i).used-o).toNat:=by
 have:a.tmps.getD 5 undef = .int .i64 o:=Z0D (Z1u T (.tmp 5))
 rw[inMu,this]
def Z9q(Jx:World→Prop)(e:Ending)(W':World):Prop:=(∃ v,e = .returned v)∧(((Z2b h i).2=true∧∃ A,J A (Z2b h i).1 W')∨((Z2b h i).2=false∧Jx W'))
def tsOf(o:Oper):Array Nat:=match o.op with
 | .call c=>c.argTypes
 | _ => #[]
theorem found_eq{ρ:Rho}{w:World}{Im:Nat→Prop}{f:Found}{v:Value}(h:Rel ρ w Im f.av v):v=Z5h f:=by
 obtain⟨cs,h1,h2,h3,h4⟩:=Z3n h
 rw[h1]
 have g:∀ (k:Nat) (hk:k<cs.size) (v:Value),[u64 f.addr,int f.hd.kind,int f.hd.length,u32 f.hd.map][k]? = some (.d (.sc v))→cs[k]=v:=fun k hk v hv=>Z0D (h4 k _ cs[k] hv (Array.getElem?_eq_getElem hk))
 have hs:cs.size=4:=h2
 simp only[Z5h]
 congr 1
 apply Array.ext
 ·simp[hs]
 ·intro k hk _
  rcases k with _ | _ | _ | _ | k
  ·exact g 0 hk _ rfl
  ·exact g 1 hk _ rfl
  ·exact g 2 hk _ rfl
  ·exact g 3 hk _ rfl
  ·omega
theorem Zio(hw:WOk h.words)(hp:Z03 h=true)(hu:(pg h i).used≤256)(R:Rnd l n J Jx)(a:Act)(w:World)(hI:InL h i l J a w) :
  (rndF Tryz.f122 0).wpIn Fence.wide (n+1) Tryz.prog (Exit.then (fun a' w'=>InL h i l J a' w'∧inMu h i a'<inMu h i a) (Exit.inBlock 0 (bodyPost Tryz.prog Tryz.f122 (Z9q h i (J:=J) Jx)))) a w:=by
 obtain⟨pre,A,Im,f,o,e1,e2,hf,h0,h1,hl,hJ,T,hIm⟩:=hI
 have S:Sx.Sys (fun _=>False) Im w (inS h l i o).st.tmps (inS h l i o).st.H (inS h l i o).st.clk a w:=⟨_,_,Inv.empty (fun g hg=>(hIm g hg).1) (by decide:1≤20),T⟩
 by_cases hlt:o<(pg h i).used
 ·obtain⟨f,rfl⟩:∃ k,f=k+1:=⟨f-1,by omega⟩
  unfold Z2i at e1 e2
  rw[if_pos hlt]at e1 e2
  have bad:¬ ((address h.conf i o).2=0∧(atH h (adr h i o)).2=0)→∀ a' w',Sx.Sys (fun _=>False) Im w (Tg.st ⟨tm 58 [(0,.d (.sc (Z24 l)))],[],30⟩).tmps (Tg.st ⟨tm 58 [(0,.d (.sc (Z24 l)))],[],30⟩).H 30 a' w' →
    rest Tryz.prog (n+1) 10 (rndF Tryz.f122 0) (Exit.then (fun a' w'=>InL h i l J a' w'∧inMu h i a'<inMu h i a) (Exit.inBlock 0 (bodyPost Tryz.prog Tryz.f122 (Z9q h i (J:=J) Jx)))) a' w':=by
   intro hb a' w' S1
   rw[if_neg hb]at e1 e2
   generalize hQ:Exit.inBlock 0 (bodyPost Tryz.prog Tryz.f122 (Z9q h i (J:=J) Jx))=Q0
   generalize (fun a' w'=>InL h i l J a' w'∧inMu h i a'<inMu h i a)=nx
   have er:rest Tryz.prog (n+1) 10 (rndF Tryz.f122 0) (Exit.then nx Q0) a' w' =
     (Code.region 10 (rgO Tryz.f122 10) false).wpIn Fence.wide (n+1) Tryz.prog (Exit.then (Code.ret.wpIn Fence.wide (n+1) Tryz.prog (Exit.inBlock 1 (Exit.then nx Q0))) (Exit.inBlock 1 (Exit.then nx Q0))) a' w':=by kernel_rfl
   rw[er]
   refine wpIn_region ?_
   rw[show List.range (rgO Tryz.f122 10).size=[0,1]++[2]from by kernel_rfl]
   refine Z3c (ro:=none) (hints:=[]) (out:=⟨tm 58 [(0,.d (.sc (Z24 l))),(55,.d (.sc (Z24 l))),(56,noFound.av)],hOf [],[],[]⟩) (by kernel_rfl) S1 trivial (fun p hp=>by simp at hp) ?_
   intro a2 w2 S2
   obtain⟨o',ho,⟨ts,hop⟩,hd,hg⟩:∃ o':Oper,(rgO Tryz.f122 10)[2]? = some o'∧(∃ ts,o'.op = .call ⟨.value (.tmp 55),#[.tmp 56,.const (.int .i64 19)],ts⟩)∧o'.dst=some 57∧o'.guard=none:=⟨(rgO Tryz.f122 10).getD 2 default,by kernel_rfl,⟨tsOf ((rgO Tryz.f122 10).getD 2 default),by kernel_rfl⟩,by kernel_rfl,by kernel_rfl⟩
   have hwd:Region.wanted o' (yielded (rgO Tryz.f122 10) a2.tmps)=true:=by simp[Region.wanted,hg]
   simp only[wpOpsIn,ho,hwd,if_true]
   obtain⟨ρ2,Im2,I2,T2⟩:=S2
   have v1:a2.eval (.tmp 55) = .func (.yield l) #[] #[]:=Z0D (Z1u T2 (.tmp 55))
   have v2:a2.eval (.tmp 56)=Z5h noFound:=found_eq (Z1u T2 (.tmp 56):Rel ρ2 w2 Im2 noFound.av _)
   have J2:J A pre w2:=R.keep _ _ _ _ hJ I2.kept
   refine ZdA hop v1 (show #[a2.eval (.tmp 56),a2.eval (.const (.int .i64 19))]=encF noFound 19 by rw[v2];rfl) (R.no A pre w2 J2 (by omega)) ?_
   rintro e w3 ⟨rfl,hx⟩
   refine⟨_,rfl,wpIn_ret ?_⟩
   show Q0 .ret _ _
   rw[← hQ]
   exact bodyPost_ret (results_none rfl _ _ _) (by rw[hd];exact T2.defers) ⟨⟨_,rfl⟩,.inr ⟨e2,hx⟩⟩
  by_cases ha:(address h.conf i o).2=0
  ·by_cases hh:(atH h (adr h i o)).2=0
   ·rw[if_pos ⟨ha,hh⟩]at e1 e2
    have sz:=Z1E (atH h (adr h i o)).1
    have sp:=ZbF hh
    obtain⟨o2,ho2⟩:∃ o2,o+sizeH (atH h (adr h i o)).1=o2:=⟨_,rfl⟩
    refine ZlV h l i o hw hp ⟨h0,h1⟩ hlt ha hh _ _ _ _ _ _ _ S ?_
    intro a1 w1 S1
    rw[ho2]at S1 e1 e2
    generalize hQ:Exit.inBlock 0 (bodyPost Tryz.prog Tryz.f122 (Z9q h i (J:=J) Jx))=Q0
    have hmu:=ZgJ h i l T
    generalize hnx:(fun a' w'=>InL h i l J a' w'∧inMu h i a'<inMu h i a)=nx
    obtain⟨yc,hyc⟩:∃ yc:Code,∀ a' w',rest Tryz.prog (n+1) 9 (rndF Tryz.f122 0) (Exit.then nx Q0) a' w' =
     (Code.region 9 (rgO Tryz.f122 9) false).wpIn Fence.wide (n+1) Tryz.prog (Exit.then ((Code.cond (.tmp 54) .ret .skip).wpIn Fence.wide (n+1) Tryz.prog (Exit.then ((Code.exit 1).wpIn Fence.wide (n+1) Tryz.prog (Exit.then (yc.wpIn Fence.wide (n+1) Tryz.prog (Exit.inBlock 1 (Exit.then nx Q0))) (Exit.inBlock 1 (Exit.then nx Q0)))) (Exit.then (yc.wpIn Fence.wide (n+1) Tryz.prog (Exit.inBlock 1 (Exit.then nx Q0))) (Exit.inBlock 1 (Exit.then nx Q0)))))
      (Exit.then ((Code.exit 1).wpIn Fence.wide (n+1) Tryz.prog (Exit.then (yc.wpIn Fence.wide (n+1) Tryz.prog (Exit.inBlock 1 (Exit.then nx Q0))) (Exit.inBlock 1 (Exit.then nx Q0)))) (Exit.then (yc.wpIn Fence.wide (n+1) Tryz.prog (Exit.inBlock 1 (Exit.then nx Q0))) (Exit.inBlock 1 (Exit.then nx Q0))))) a' w':=⟨.seq (.region 10 (rgO Tryz.f122 10) false) .ret,fun a' w'=>by kernel_rfl⟩
    rw[hyc]
    refine wpIn_region ?_
    rw[show List.range (rgO Tryz.f122 9).size=[0,1,2,3]++([4]++[5])from by kernel_rfl]
    refine Z3c (ro:=none) (hints:=[]) (out:=⟨tm 58 [(0,.d (.sc (Z24 l))),(1,.rp h.dvs 0),(2,.rp [dint i] 0),(4,.rp (pg h i).dv 0),(5,int o2),(6,u64 (adr h i o)),(8,.pt 184008 0 0),(49,.d (.sc (Z24 l))),(50,u64 (adr h i o)),(51,(atH h (adr h i o)).1.av),(52,(Found.mk (adr h i o) (atH h (adr h i o)).1).av)],hOf [(184008,.box 34 [int (atH h (adr h i o)).1.kind,int (atH h (adr h i o)).1.length,u32 (atH h (adr h i o)).1.map])],[],[]⟩) (by kernel_rfl) S1 trivial (fun p hp=>by simp at hp) ?_
    intro a2 w2 S2
    obtain⟨o',ho,⟨ts,hop⟩,hd,hg⟩:∃ o':Oper,(rgO Tryz.f122 9)[4]? = some o'∧(∃ ts,o'.op = .call ⟨.value (.tmp 49),#[.tmp 52,.const (.int .i64 0)],ts⟩)∧o'.dst=some 53∧o'.guard=none:=⟨(rgO Tryz.f122 9).getD 4 default,by kernel_rfl,⟨tsOf ((rgO Tryz.f122 9).getD 4 default),by kernel_rfl⟩,by kernel_rfl,by kernel_rfl⟩
    have hwd:Region.wanted o' (yielded (rgO Tryz.f122 9) a2.tmps)=true:=by simp[Region.wanted,hg]
    rw[show([4]++[5]:List Nat)=4::[5]from rfl,wpOpsIn]
    simp only[ho]
    rw[if_pos hwd]
    have v1:a2.eval (.tmp 49) = .func (.yield l) #[] #[]:=by obtain⟨ρ2,Im2,I2,T2⟩:=S2;exact Z0D (Z1u T2 (.tmp 49))
    have v2:a2.eval (.tmp 52)=Z5h ⟨adr h i o,(atH h (adr h i o)).1⟩:=by
     obtain⟨ρ2,Im2,I2,T2⟩:=S2
     exact found_eq (Z1u T2 (.tmp 52):Rel ρ2 w2 Im2 (Found.mk (adr h i o) (atH h (adr h i o)).1).av _)
    have S3:=ZlJ (s:=⟨tm 58 [(0,.d (.sc (Z24 l))),(1,.rp h.dvs 0),(2,.rp [dint i] 0),(4,.rp (pg h i).dv 0),(5,int o2),(6,u64 (adr h i o)),(8,.pt 184008 0 0),(49,.d (.sc (Z24 l))),(50,u64 (adr h i o)),(51,(atH h (adr h i o)).1.av),(52,(Found.mk (adr h i o) (atH h (adr h i o)).1).av)],hOf [(184008,.box 34 [int (atH h (adr h i o)).1.kind,int (atH h (adr h i o)).1.length,u32 (atH h (adr h i o)).1.map])],30⟩) (t:=inS h l i o2) (by kernel_rfl) (by kernel_rfl) S2
    clear S2 S1
    obtain⟨ρ2,Im2,I2,T2⟩:=S3
    have J2:J A pre w2:=R.keep _ _ _ _ hJ I2.kept
    refine ZdA hop v1 (show #[a2.eval (.tmp 52),a2.eval (.const (.int .i64 0))]=encF ⟨adr h i o,(atH h (adr h i o)).1⟩ 0 by rw[v2];rfl) (R.yes A pre w2 _ J2 (by omega)) ?_
    rintro e w3 ⟨rfl,A',J3,hA',K3⟩
    have hIm2:∀ g,Im2 g→¬ A g:=by
     intro g hg hA
     rcases I2.im0 g hg with k | k | k
     ·exact(hIm g k).2 hA
     ·have:=R.bnd _ _ _ hJ g hA;omega
     ·exact k
    refine⟨_,rfl, ?_⟩
    have T3:RelT (fun _=>none) w3 Im2 (inS h l i o2).tmps a2:=(T2.pure (by kernel_rfl)).mono ⟨K3.size,fun g hg=>K3.block g (I2.imb g hg) (hIm2 g hg),K3.rows⟩ (fun _ h=>h) (fun _ _ h=>h) (fun _ _ _ h=>nomatch h)
    have S4:Sx.Sys (fun _=>False) Im2 w3 ((inS h l i o2).tmps.set 53 (Sx.bool true)) (hOf []) 20 (a2.put o'.dst (.bool true)) w3:=by
     rw[hd]
     exact⟨_,Im2,Inv.empty (fun g hg=>Nat.lt_of_lt_of_le (I2.imb g hg) K3.size) (by decide),T3.put 53 (Rel.d (RelD.sc (.bool true) rfl))⟩
    refine Z64 (ro:=none) (hints:=[]) (out:=⟨((inS h l i o2).tmps.set 53 (Sx.bool true)).set 54 (Sx.bool (!true)),hOf [],[],[]⟩) (by kernel_rfl) S4 trivial (fun p hp=>by simp at hp) ?_
    intro a5 w5 S5
    have v5:a5.eval (.tmp 54) = .bool false:=by obtain⟨_,_,_,T5⟩:=S5;exact Z0D (Z1u T5 (.tmp 54))
    have S6:=ZlJ (s:=⟨((inS h l i o2).tmps.set 53 (Sx.bool true)).set 54 (Sx.bool (!true)),hOf [],20⟩) (t:=inS h l i o2) (by kernel_rfl) (by kernel_rfl) S5
    obtain⟨ρ6,Im6,I6,T6⟩:=S6
    refine wpIn_cond_false v5 (wpIn_skip ?_)
    refine wpIn_exit ?_
    show(if 1=1 then(Exit.then nx Q0) .normal a5 w5 else Exit.then nx Q0 (.exit 1) a5 w5)
    rw[if_pos rfl,← hnx]
    have T7:=T6.pure (by kernel_rfl)
    refine⟨⟨pre++[⟨adr h i o,(atH h (adr h i o)).1⟩],A',Im6,f,o2, ?_,e2,by omega,by omega,by omega,by simp;omega,R.keep _ _ _ _ J3 I6.kept,T7,fun g hg=>⟨I6.imb g hg,fun hA=>?_⟩⟩, ?_⟩
    ·rw[e1];simp
    ·have hb:=R.bnd _ _ _ J3 g hA
     rcases I6.im0 g hg with k | k | k
     ·have:=I2.imb g k
      rcases hA' g hA with q | q
      ·exact hIm2 g k q
      ·omega
     ·omega
     ·exact k
    ·show inMu h i a5<inMu h i a
     rw[ZgJ h i l T7,hmu];omega
   ·exact Zmf h l i o hw hp ⟨h0,h1⟩ hlt ha hh _ _ _ _ _ _ _ S (bad (fun q=>hh q.2))
  ·exact Zlz h l i o hw hp ⟨h0,h1⟩ hlt ha _ _ _ _ _ _ _ S (bad (fun q=>ha q.1))
 ·refine wpIn_mono (wpIn_wide.2 (Zmk h l i o (by omega) _ _ _ _ _ S)) ?_
  rintro e a' w' ⟨rfl,S1⟩
  have hz:Z2i h i f o=([],true):=by
   cases f with
   | zero=>rfl
   | succ f=>rw[Z2i,if_neg hlt]
  rw[hz]at e1 e2
  obtain⟨ρ,Im1,I1,T1⟩:=S1
  show bodyPost _ _ _ .normal _ _
  refine bodyPost_end (results_none rfl _ _ _) T1.defers ⟨⟨_,rfl⟩,.inl ⟨e2,A, ?_⟩⟩
  rw[e1,List.append_nil]
  exact R.keep _ _ _ _ hJ I1.kept
theorem Zkg(hw:WOk h.words)(hp:Z03 h=true)(hi:0≤i∧i<h.pages.length)(R:Rnd l n J Jx){A0 Im:Nat→Prop}{W:World}{v1 v2:Value}(him:∀ g,Im g→g<W.heap.size∧¬ A0 g)
  (h1:Rel (fun _=>none) W Im (.rp h.dvs 0) v1) (h2:Rel (fun _=>none) W Im (.rp [dint i] 0) v2) (J0:J A0 [] W):CallsIn Fence.wide (n+1) Tryz.prog 122 #[Z24 l,v1,v2] W (Z9q h i (J:=J) Jx):=by
 have hu:(pg h i).used≤256:=(Z0I hp (j:=i.toNat) (by omega)).2.2.2.2.2.2.2.1
 refine callsIn_of_wp Tryz.func122 (c:=bdyF Tryz.f122) (by kernel_rfl) trivial ?_ rfl
 have S:Sx.Sys (fun _=>False) Im W (inE h l i).st.tmps (inE h l i).st.H (inE h l i).st.clk { tmps := #[Z24 l,v1,v2]++Array.replicate (Tryz.f122.ntmps-(#[Z24 l,v1,v2]:Array Value).size) undef,defers:=[] } W:=by
  refine⟨_,Im,Inv.empty (fun g hg=>(him g hg).1) (Nat.le_refl 1),⟨by kernel_rfl,fun k y v hy hv=>?_,rfl⟩⟩
  rw[show(inE h l i).st.tmps=[.d (.sc (Z24 l)),.rp h.dvs 0,.rp [dint i] 0]++List.replicate 55 .any from by kernel_rfl,List.getElem?_append]at hy
  rw[Array.getElem?_append]at hv
  split at hy
  ·rename_i hk
   have hk3:k<3:=hk
   rw[if_pos (show k<(#[Z24 l,v1,v2]:Array Value).size from hk3)]at hv
   rcases k with _ | _ | _ | k
   ·cases hy;cases hv;exact .d (.sc _ rfl)
   ·cases hy;cases hv;exact h1
   ·cases hy;cases hv;exact h2
   ·omega
  ·have:=List.mem_of_getElem? hy
   rw[(List.mem_replicate.1 this).2]
   exact .any _
 by_cases hk:(pg h i).kind=1∨(pg h i).kind=2
 ·refine Zm7 h l i hi hk _ _ _ _ _ _ _ S ?_
  intro a1 w1 S1
  generalize hQ:bodyPost Tryz.prog Tryz.f122 (Z9q h i (J:=J) Jx)=Q
  have er:rest Tryz.prog (n+1) 2 (bdyF Tryz.f122) Q a1 w1=(Code.region 2 (rgO Tryz.f122 2) false).wpIn Fence.wide (n+1) Tryz.prog (Exit.then ((blkF Tryz.f122 0).wpIn Fence.wide (n+1) Tryz.prog Q) Q) a1 w1:=by kernel_rfl
  rw[er]
  refine wpIn_region ?_
  rw[show List.range (rgO Tryz.f122 2).size=[0]from by kernel_rfl]
  refine Z64 (ro:=none) (hints:=[]) (out:=⟨tm 58 [(0,.d (.sc (Z24 l))),(1,.rp h.dvs 0),(2,.rp [dint i] 0),(4,.pt 8004 0 0),(5,int 0)],hOf [(8004,.box 56 ((pg h i).dv.map .d))],[],[]⟩) (by kernel_rfl) S1 trivial (fun p hp=>by simp at hp) ?_
  intro a2 w2 S2
  show(blkF Tryz.f122 0).wpIn Fence.wide (n+1) Tryz.prog Q a2 w2
  rw[Z8u (by kernel_rfl),← hQ]
  refine wpIn_block (wpIn_loop (InL h i l J) (fun a _=>inMu h i a) ?_ (fun a w hI=>Zio h i l n hw hp hu R a w hI))
  obtain⟨ρ2,Im2,I2,T2⟩:=S2
  obtain⟨β,m1,m2⟩:=I2.blk 8004 _ rfl
  have J2:=R.keep _ _ _ _ J0 I2.kept
  have hlv:live (hOf [(8004,Blk.box 56 ((pg h i).dv.map .d))]) 8004:=⟨_,rfl,by simp⟩
  have T3:RelT ρ2 w2 (fun g=>Im2 g∨β.g=some g) _ a2:=T2.mono (Ext.refl _ _) (fun _ h=>.inl h) (fun _ _ h=>h) I2.bnd
  have T4:=(T3.reSet 4 .any (fun v _=>.any v)).pure (by kernel_rfl)
  have T5:=T4.reSet 4 (.rp (pg h i).dv 0) (fun v hv=>by
   have:=T2.tmp 4 _ v rfl hv
   exact Z6o m1 m2 this (fun _ h=>.inl h) (fun _ h=>.inr h))
  refine⟨[],A0,_,256,0,by rw[Z2b,if_pos hk];rfl,by rw[Z2b,if_pos hk],by omega,by omega,by omega,by simp,J2,T5,fun g hg=>?_⟩
  rcases hg with hg | hg
  ·refine⟨I2.imb g hg,fun hA=>?_⟩
   rcases I2.im0 g hg with k | k | k
   ·exact(him g k).2 hA
   ·have:=R.bnd _ _ _ J0 g hA;omega
   ·exact k
  ·refine⟨I2.bnd _ _ _ m1 hg,fun hA=>?_⟩
   rcases I2.own _ _ _ m1 hg with⟨k,_⟩ | k
   ·have:=R.bnd _ _ _ J0 g hA;omega
   ·exact k
 ·refine wpIn_mono (wpIn_wide.2 (ZlL h l i hi hk _ _ _ _ _ S)) ?_
  rintro e a' w' ⟨rfl,S1⟩
  obtain⟨ρ,Im1,I1,T1⟩:=S1
  refine bodyPost_ret (results_none rfl _ _ _) T1.defers ⟨⟨_,rfl⟩,.inl ⟨by rw[Z2b,if_neg hk],A0, ?_⟩⟩
  rw[Z2b,if_neg hk]
  exact R.keep _ _ _ _ J0 I1.kept
end
end Go.Proofs.YtjflpmnenhdeeaaGreat
namespace Go.Proofs.YtjflpmnenhdeeaaGreat
open Go.Sx
theorem ZkH(h:Heap)(i:Int):CSpec Tryz.prog (bdyF Tryz.f87) (Tg.st ⟨tm 6 [(0,h.av),(1,int i)],[],1⟩) .ret (Tg.st ⟨tm 6 [(4,.fn 122 [.pt 8002 0 0,.pt 8003 0 0])],[(8003,.box 3 [int i]),(8002,.box 28 h.cells)],30⟩):=by
 exact sF [] [] Fz
theorem ZkB(h:Heap)(i:Int):ZcG Tryz.prog 1 (bdyF Tryz.f47) (Tg.st ⟨tm 22 [(0,h.av),(1,int i)],[],1⟩) (Tg.st ⟨tm 22 [(1,int i),(2,.pt 8002 0 0),(4,.pt 8004 0 0),(5,.pt 8005 0 0)],[(8005,.box 40 [int 0]),(8004,.box 85 [.d (.sl 0 [])]),(8002,.box 28 h.cells)],20⟩):=by
 refine Z4N [] [] [] (φ:=True) ?_ (by kernel_rfl) (by kernel_rfl) (by kernel_rfl) (by kernel_rfl)
 exact trivial
def ptr(g:Nat):AV:=.d (.sc (.pointer (some ⟨g,0,none⟩)))
theorem lstN(g4 g5:Nat):CIn Tryz.prog (asgF Tryz.f47 0) (Tg.st ⟨tm 22 [(4,ptr g4),(5,ptr g5),(12,noFound.av),(13,int 19)],[],20⟩) .nrm (Tg.st ⟨tm 22 [(4,ptr g4),(5,ptr g5),(8,int 19)],[],30⟩):=by
 refine Z9P [] [] [] (φ:=True) ?_ (by kernel_rfl) (by kernel_rfl) (by kernel_rfl) (by kernel_rfl)
 exact trivial
end Go.Proofs.YtjflpmnenhdeeaaGreat
namespace Go.Proofs.YtjflpmnenhdeeaaGreat
open Go.Sx Go.RowKit
section
variable {P:Program} {o:Oper} {a:Act} {w:World}
theorem Zkz{t g ty:Nat}{v:Value}(hw:w.heap[g]? = some (.cells #[v] ty (0,0)))(hv:v.oneCell'=true)(ht:Z5Z P t=some false):(loadVar t ⟨g,0,none⟩).run P w = .ok v w:=by
 obtain⟨v',h1,h2⟩:=Z3O (P:=P) (w:=w) (t:=t) (g:=g) (off:=0) (l:=[.d (.sc v)]) (o:=0) (x:=.d (.sc v)) (ρ:=fun _=>none) (Im:=fun _=>False) (fun j a ha=>by
  cases j with
  | zero=>cases ha;exact⟨v,by simp[World.cell?,hw],hv,.d (.sc _ hv)⟩
  | succ j=>simp at ha) (by simp[Z8O,ht])
 rw[Z0D h2]at h1
 exact h1
theorem Zky{t g ty:Nat}{x:Operand}{v:Value}(ho:o.op = .load t x)(hx:a.eval x = .pointer (some ⟨g,0,none⟩))(hw:w.heap[g]? = some (.cells #[v] ty (0,0)))(hv:v.oneCell'=true)(ht:Z5Z P t=some false):(execOp a.eval o).run P w = .ok (.value v) w:=by
 simp[execOp,ho,Instr.loadAt,Instr.sureAddr,hx,Zkz hw hv ht]
theorem Z76{t g ty:Nat}{x y:Operand}{u v:Value}(ho:o.op = .store t x y)(hx:a.eval x = .pointer (some ⟨g,0,none⟩))(hy:a.eval y=v)(hw:w.heap[g]? = some (.cells #[u] ty (0,0)))(hv:v.oneCell'=true)(hs:szOf P t=1):(execOp a.eval o).run P w = .ok .skip (w.setRow g #[v]):=by
 have hc:=Z61 hv
 have:=Z4a (P:=P) (t:=t) (off:=0) (v:=v) hw (by rw[hc,hs];rfl) (Z6G (by omega)) (by rw[hc];simp) (fun i u h=>by rw[hc]at h;cases i<;>simp at h;subst h;exact hv)
 rw[hc]at this
 simp at this
 simp[execOp,ho,Instr.storeAt,Instr.sureAddr,hx,hy,this]
theorem Zid{t:Nat}{z:Value}(ho:o.op = .alloc t)(hz:zeroOf P t=some z):(execOp a.eval o).run P w = .ok (.value (.pointer (some ⟨w.heap.size,0,none⟩))) (w.alloc (.cells z.cells t)):=by
 unfold zeroOf at hz
 split at hz
 ·rename_i i hi
  simp[execOp,ho,Instr.alloc,zeroValue,typeInfo,hi,hz,newVar,newRow]
 ·cases hz
theorem Z66{v:Value}{w':World}{next:Act→World→Prop}{Q:Exit→Act→World→Prop}(h:(execOp a.eval o).run P w = .ok (.value v) w')(k:next (a.put o.dst v) w'):o.wp P a w next Q:=by
 unfold Oper.wp;rw[h];exact k
theorem Z4P{w':World}{next:Act→World→Prop}{Q:Exit→Act→World→Prop}(h:(execOp a.eval o).run P w = .ok .skip w')(k:next (a.put o.dst undef) w'):o.wp P a w next Q:=by
 unfold Oper.wp;rw[h];exact k
theorem Z2o{F:Fence}{n i:Nat}{l:List Nat}{ops:Array Oper}{Q:Exit→Act→World→Prop}(ho:ops[i]? = some o)(hg:o.guard=none)(h:o.wpIn F n P a w (wpOpsIn F n P ops Q l) Q):wpOpsIn F n P ops Q (i::l) a w:=by
 rw[wpOpsIn]
 simp only[ho]
 rw[if_pos (by simp[Region.wanted,hg])]
 exact h
theorem setRow_self{g ty:Nat}{cs cs':Array Value}(hg:w.heap[g]? = some (.cells cs ty (0,0))):(w.setRow g cs').heap[g]? = some (.cells cs' ty (0,0)):=setRow_heap w g cs cs' ty _ hg
end
theorem Z3t{A:Nat→Prop}{X Y Z:World}(h:Kept (fun _=>False) X Y)(k:Kept A Y Z)(hA:∀ g,A g→X.heap.size≤g):Kept (fun _=>False) X Z :=
 ⟨k.os.trans h.os,k.tape.trans h.tape,k.output.trans h.output,Nat.le_trans h.size k.size,fun g hg _=>by
  rw[k.block g (Nat.lt_of_lt_of_le hg h.size) (fun q=>by have:=hA g q;omega)];exact h.block g hg (fun q=>q),fun g hg=>by rw[k.rows g (Nat.lt_of_lt_of_le hg h.size)];exact h.rows g hg⟩
theorem ZlI(h:Heap)(i:Int)(w:World)(Im:Nat→Prop)(hv iv:Value)(hIm:∀ g,Im g→g<w.heap.size)(h1:Rel (fun _=>none) w Im h.av hv)(h2:Rel (fun _=>none) w Im (int i) iv) :
  Calls Tryz.prog 87 #[hv,iv] w fun e w'=>∃ p1 p2,∃ Im':Nat→Prop,e = .returned (.func (.func 122) #[] #[p1,p2])∧Kept (fun _=>False) w w'∧(∀ g,Im' g→(Im g∨w.heap.size≤g)∧g<w'.heap.size) ∧
   Rel (fun _=>none) w' Im' (.rp h.dvs 0) p1∧Rel (fun _=>none) w' Im' (.rp [dint i] 0) p2:=by
 refine calls_of_wp Tryz.func87 (c:=bdyF Tryz.f87) (by kernel_rfl) ?_
 have S:Sx.Sys (fun _=>False) Im w (tm 6 [(0,h.av),(1,int i)]) (hOf []) 1 { tmps := #[hv,iv]++Array.replicate (Tryz.f87.ntmps-(#[hv,iv]:Array Value).size) undef,defers:=[] } w:=by
  refine⟨_,Im,Inv.empty hIm (Nat.le_refl 1),⟨by kernel_rfl,fun k y v hy hv=>?_,rfl⟩⟩
  rw[show tm 6 [(0,h.av),(1,int i)]=[h.av,int i]++List.replicate 4 .any from by kernel_rfl,List.getElem?_append]at hy
  rw[Array.getElem?_append]at hv
  split at hy
  ·rename_i hk
   have hk3:k<2:=hk
   rw[if_pos (show k<(#[_,iv]:Array Value).size from hk3)]at hv
   rcases k with _ | _ | k
   ·cases hy;cases hv;exact h1
   ·cases hy;cases hv;exact h2
   ·omega
  ·have:=List.mem_of_getElem? hy
   rw[(List.mem_replicate.1 this).2]
   exact .any _
 refine wp_mono (ZkH h i _ _ _ _ _ S) ?_
 rintro e a' w' ⟨rfl,ρ,Im',I,T⟩
 refine bodyPost_ret (results_tmp rfl _ _ _) T.defers ?_
 have hf:Rel ρ w' Im' (.fn 122 [.pt 8002 0 0,.pt 8003 0 0]) (a'.tmps.getD 4 undef):=Z1u T (.tmp 4)
 generalize a'.tmps.getD 4 undef=fv at hf
 cases hf with
 | fn hn hr =>
  rename_i cs
  have hn2:cs.size=2:=hn
  obtain⟨p1,p2,rfl⟩:∃ p1 p2,cs = #[p1,p2]:=⟨cs[0],cs[1],by
   apply Array.ext
   ·simp[hn2]
   ·intro k hk _
    rcases k with _ | _ | k
    ·rfl
    ·rfl
    ·omega⟩
  obtain⟨β2,m2,n2⟩:=I.blk 8002 _ rfl
  obtain⟨β3,m3,n3⟩:=I.blk 8003 _ rfl
  refine⟨p1,p2,fun g=>Im' g∨β2.g=some g∨β3.g=some g,rfl,I.kept,fun g hg=>?_,Z6o m2 n2 (hr 0 _ p1 rfl rfl) (fun _ h=>.inl h) (fun _ h=>.inr (.inl h)),Z6o m3 n3 (hr 1 _ p2 rfl rfl) (fun _ h=>.inl h) (fun _ h=>.inr (.inr h))⟩
  rcases hg with hg | hg | hg
  ·exact⟨(I.im0 g hg).imp id (fun h=>h.elim id (fun h=>h.elim)),I.imb g hg⟩
  ·exact⟨.inr ((I.own _ _ g m2 hg).elim (·.1) (fun h=>h.elim)),I.bnd _ _ g m2 hg⟩
  ·exact⟨.inr ((I.own _ _ g m3 hg).elim (·.1) (fun h=>h.elim)),I.bnd _ _ g m3 hg⟩
def rgB(fn:Func)(k:Nat):Array Oper:=match Zcd k (bodF fn 0)with
 | some o=>o
 | none => #[]
theorem ZcE{tmps:Array Value}{W:World}{g4 g5:Nat}{v4 v5:Value}(h4:tmps.getD 4 undef = .pointer (some ⟨g4,0,none⟩))(h5:tmps.getD 5 undef = .pointer (some ⟨g5,0,none⟩))(c4:W.heap[g4]? = some (.cells #[v4] 85 (0,0)))(c5:W.heap[g5]? = some (.cells #[v5] 40 (0,0)))
  (o4:v4.oneCell'=true) (o5:v5.oneCell'=true):(results Tryz.f47 tmps).run Tryz.prog W = .ok (.tuple #[v4,v5]) W:=by
 rw[Z9f,show Tryz.f47.results = #[.cell 4 85,.cell 5 40]from rfl]
 have l4:=Zkz (P:=Tryz.prog) (t:=85) c4 o4 (by kernel_rfl)
 have l5:=Zkz (P:=Tryz.prog) (t:=40) c5 o5 (by kernel_rfl)
 simp[Z9r,h4,h5,asAddr,l4,l5,List.mapM_toArray]
theorem ZaU{tmps:Array Value}{W:World}{g4 g5 D:Nat}{v4 v5:Value}{R:Ending→World→Prop}(h4:tmps.getD 4 undef = .pointer (some ⟨g4,0,none⟩))(h5:tmps.getD 5 undef = .pointer (some ⟨g5,0,none⟩))(c4:W.heap[g4]? = some (.cells #[v4] 85 (0,0)))(c5:W.heap[g5]? = some (.cells #[v5] 40 (0,0)))
  (o4:v4.oneCell'=true) (o5:v5.oneCell'=true) (hD:W.heap[D]? = some (.deferred (some []))) (hR:R (.returned (.tuple #[v4,v5])) (W.putObj D (.deferred none))) :
  bodyPostM Fence.wide 10 Tryz.prog Tryz.f47 R .ret { tmps:=tmps,defers:=[{ target:=.collected D,args := #[] }] } W:=by
 refine⟨by simp,.inl ⟨_,_,rfl,run_takeDeferred hD, ?_⟩⟩
 have n4:g4≠D:=by rintro rfl;rw[c4]at hD;cases hD
 have n5:g5≠D:=by rintro rfl;rw[c5]at hD;cases hD
 exact⟨_,ZcE h4 h5 ((World.putObj_heap_other n4).trans c4) ((World.putObj_heap_other n5).trans c5) o4 o5,hR⟩
theorem Zjc{fn:Nat}{a0:Array Value}{D l n g4 g5:Nat}{u4 u5:Value}{W:World}(ha0:a0.size=22)(ha4:a0[4]? = some (.pointer (some ⟨g4,0,none⟩)))(ha5:a0[5]? = some (.pointer (some ⟨g5,0,none⟩)))
  (rl:W.heap[l]? = some (Obj.loop { state:=.ready,pending:=none,fn:=fn,tmps:=a0,params := #[12,13],assign:=asgF Tryz.f47 0,body:=bodF Tryz.f47 0,defers:=D }))
  (rD:W.heap[D]? = some (.deferred (some []))) (c4:W.heap[g4]? = some (.cells #[u4] 85 (0,0))) (c5:W.heap[g5]? = some (.cells #[u5] 40 (0,0))) (h45:g4≠g5) :
  YieldAt Fence.wide n Tryz.prog l (encF noFound 19) W fun e W'=>e = .returned (.bool false)∧W'.heap[l]? = some (Obj.loop { state:=.done,pending:=some .ret,fn:=fn,tmps:=a0,params := #[12,13],assign:=asgF Tryz.f47 0,body:=bodF Tryz.f47 0,defers:=D }) ∧
   W'.heap[D]? = some (.deferred (some []))∧W'.heap[g4]? = some (.cells #[.slice none 0 0] 85 (0,0))∧W'.heap[g5]? = some (.cells #[.int .i64 19] 40 (0,0))∧Kept (fun g=>g=l∨g=g4∨g=g5) W W':=by
 refine⟨fn,_,_,_,run_yield rl rfl,roundIn_of_wpIn trivial ?_⟩
 have ef:((#[12,13]:Array Nat).zip (encF noFound 19)).foldl (fun tmps (t,a)=>tmps.setIfInBounds t a) a0=(a0.setIfInBounds 12 (Z5h noFound)).setIfInBounds 13 (.int .i64 19):=by simp[encF]
 show(asgF Tryz.f47 0).wpIn _ n _ _ { tmps:=((#[12,13]:Array Nat).zip (encF noFound 19)).foldl (fun tmps (t,a)=>tmps.setIfInBounds t a) a0,defers:=[] } W
 rw[ef]
 have TA:RelT (fun _=>none) W (fun _=>False) (List.replicate 22 .any) { tmps:=a0,defers:=[] }:=by
  refine⟨by rw[ha0];rfl,fun i y v h1 h2=>?_,rfl⟩
  have:=List.mem_of_getElem? h1
  rw[(List.mem_replicate.1 this).2]
  exact .any _
 have T1:=(((TA.reSet 4 (ptr g4) (fun v hv=>by rw[ha4]at hv;cases hv;exact .d (.sc _ rfl))).reSet 5 (ptr g5) (fun v hv=>by rw[ha5]at hv;cases hv;exact .d (.sc _ rfl))).put 12 (Z9x _ W _ noFound)).put 13 (Rel.d (RelD.sc (Value.int .i64 19) rfl))
 have S1:Sx.Sys (fun _=>False) (fun _=>False) W (Tg.st ⟨tm 22 [(4,ptr g4),(5,ptr g5),(12,noFound.av),(13,int 19)],[],20⟩).tmps (Tg.st ⟨tm 22 [(4,ptr g4),(5,ptr g5),(12,noFound.av),(13,int 19)],[],20⟩).H 20 { tmps:=(a0.setIfInBounds 12 (Z5h noFound)).setIfInBounds 13 (.int .i64 19),defers:=[] } W :=
  ⟨_,_,Inv.empty (fun _ h=>h.elim) (by decide),T1⟩
 refine wpIn_mono (lstN g4 g5 (some l) n _ _ _ _ _ S1) ?_
 rintro e a1 w1 ⟨rfl,ρ1,Im1,I1,T1⟩
 have K1:=I1.kept
 have same1:∀ {g:Nat} {o:Obj},W.heap[g]? = some o→w1.heap[g]? = some o:=fun {g o} h=>by
  rw[K1.block g (Array.getElem?_eq_some_iff.1 h).1 (fun q=>q)];exact h
 refine⟨_,run_beginRound (same1 rl) rfl, ?_⟩
 obtain⟨w2,hw2⟩:∃ w2,w1.putObj l (Obj.loop { state:=.busy,pending:=none,fn:=fn,tmps:=a0,params := #[12,13],assign:=asgF Tryz.f47 0,body:=bodF Tryz.f47 0,defers:=D })=w2:=⟨_,rfl⟩
 have rl2:w2.heap[l]? = some (Obj.loop { state:=.busy,pending:=none,fn:=fn,tmps:=a0,params := #[12,13],assign:=asgF Tryz.f47 0,body:=bodF Tryz.f47 0,defers:=D }):=by
  rw[← hw2];exact World.putObj_heap_same (Array.getElem?_eq_some_iff.1 (same1 rl)).1
 have hs2:∀ g,g≠l→w2.heap[g]? = w1.heap[g]? := fun g hg=>by rw[← hw2];exact World.putObj_heap_other hg
 have hz2:w2.heap.size=w1.heap.size:=by rw[← hw2];exact World.putObj_size
 have hos2:w2.os=w1.os∧w2.tape=w1.tape∧w2.output=w1.output:=by rw[← hw2];exact⟨rfl,rfl,rfl⟩
 have n4:g4≠l:=by rintro rfl;rw[c4]at rl;cases rl
 have n5:g5≠l:=by rintro rfl;rw[c5]at rl;cases rl
 have nD:D≠l:=by rintro rfl;rw[rD]at rl;cases rl
 have T2:RelT (fun _=>none) w2 (fun _=>False) (tm 22 [(4,ptr g4),(5,ptr g5),(8,int 19)]) a1:=by
  refine⟨T1.size,fun i x v h1 h2=>?_,T1.defers⟩
  have:=T1.tmp i x v h1 h2
  have hx:x = .any∨∃ u,x = .d (.sc u):=by
   have hm:=List.mem_of_getElem? h1
   have:∀ y∈tm 22 [(4,ptr g4),(5,ptr g5),(8,int 19)],y = .any∨∃ u,y = .d (.sc u):=by
    rw[show tm 22 [(4,ptr g4),(5,ptr g5),(8,int 19)]=List.replicate 4 .any++[ptr g4,ptr g5,.any,.any,int 19]++List.replicate 13 .any from by kernel_rfl]
    intro y hy
    simp only[List.mem_append,List.mem_replicate,List.mem_cons,List.not_mem_nil,or_false]at hy
    rcases hy with(⟨_,rfl⟩ | rfl | rfl | rfl | rfl | rfl) | ⟨_,rfl⟩<;>first | exact .inl rfl | exact .inr ⟨_,rfl⟩
   exact this x hm
  rcases hx with rfl | ⟨u,rfl⟩
  ·exact .any _
  ·rw[Z0D this]
   have h1:(Value.oneCell' u)=true:=by
    cases this with | d h=>cases h with | sc _ h=>exact h
   exact .d (.sc _ h1)
 have S2:Sx.Sys (fun _=>False) (fun _=>False) w2 (tm 22 [(4,ptr g4),(5,ptr g5),(8,int 19)]) (hOf []) 20 a1 w2:=⟨_,_,Inv.empty (fun _ h=>h.elim) (by decide),T2⟩
 show(bodF Tryz.f47 0).wpIn (fen (some l)) n Tryz.prog _ a1 _
 rw[hw2]
 generalize hQ:roundPost Tryz.prog l _=Q
 obtain⟨yc,hyc⟩:∃ yc:Code,bodF Tryz.f47 0 = .block 1 (.seq (.seq (.region 5 (rgB Tryz.f47 5) false) (.cond (.tmp 15) (.seq (.region 6 (rgB Tryz.f47 6) false) .ret) .skip)) yc):=⟨.region 7 (rgB Tryz.f47 7) false,by kernel_rfl⟩
 rw[hyc]
 refine wpIn_block (wpIn_seq (wpIn_seq (wpIn_region ?_)))
 rw[show List.range (rgB Tryz.f47 5).size=[0,1]from by kernel_rfl]
 refine Z64 (ro:=some l) (hints:=[]) (out:=⟨tm 22 [(4,ptr g4),(5,ptr g5),(8,int 19),(14,int 19),(15,Sx.bool ((19:Int) != 0))],hOf [],[],[]⟩) (by kernel_rfl) S2 trivial (fun p hp=>by simp at hp) ?_
 intro a3 w3 S3
 have v15:a3.eval (.tmp 15) = .bool true:=by obtain⟨_,_,_,T⟩:=S3;exact Z0D (Z1u T (.tmp 15))
 refine wpIn_cond_true v15 (wpIn_seq (wpIn_region ?_))
 rw[show List.range (rgB Tryz.f47 6).size=[0]++[1,2]from by kernel_rfl]
 refine Z3c (ro:=some l) (hints:=[]) (out:=⟨tm 22 [(4,ptr g4),(5,ptr g5),(8,int 19),(14,int 19),(15,Sx.bool ((19:Int) != 0)),(16,int 19)],hOf [],[],[]⟩) (by kernel_rfl) S3 trivial (fun p hp=>by simp at hp) ?_
 rintro a4 w4 ⟨ρ4,Im4,I4,T4⟩
 have K4:=I4.kept
 have same4:∀ {g:Nat} {o:Obj},w2.heap[g]? = some o→w4.heap[g]? = some o:=fun {g o} h=>by
  rw[K4.block g (Array.getElem?_eq_some_iff.1 h).1 (fun q=>q)];exact h
 have v4:a4.eval (.tmp 4) = .pointer (some ⟨g4,0,none⟩):=Z0D (Z1u T4 (.tmp 4))
 have v5:a4.eval (.tmp 5) = .pointer (some ⟨g5,0,none⟩):=Z0D (Z1u T4 (.tmp 5))
 have v16:a4.eval (.tmp 16) = .int .i64 19:=Z0D (Z1u T4 (.tmp 16))
 have d4:w4.heap[g4]? = some (.cells #[u4] 85 (0,0)):=same4 (by rw[hs2 _ n4];exact same1 c4)
 have d5:w4.heap[g5]? = some (.cells #[u5] 40 (0,0)):=same4 (by rw[hs2 _ n5];exact same1 c5)
 have e4:=setRow_self (cs' := #[.slice none 0 0]) d4
 have f5:(w4.setRow g4 #[.slice none 0 0]).heap[g5]? = some (.cells #[u5] 40 (0,0)):=by rw[setRow_other w4 g4 g5 _ h45.symm];exact d5
 refine Z2o (o:=(rgB Tryz.f47 6).getD 1 default) (by kernel_rfl) (by kernel_rfl) (Z2J (by intro c h;cases h) (Z4P (Z76 (t:=85) (x:=.tmp 4) (y:=.const (.slice none 0 0)) (v:=.slice none 0 0) (by kernel_rfl) v4 rfl d4 rfl (by kernel_rfl)) ?_))
 refine Z2o (o:=(rgB Tryz.f47 6).getD 2 default) (by kernel_rfl) (by kernel_rfl) (Z2J (by intro c h;cases h) (Z4P (Z76 (t:=40) (x:=.tmp 5) (y:=.tmp 16) (v:=.int .i64 19) (by kernel_rfl) v5 v16 f5 rfl (by kernel_rfl)) ?_))
 generalize hw5:(w4.setRow g4 #[.slice none 0 0]).setRow g5 #[.int .i64 19]=w5
 have sm:∀ {g:Nat},g≠g4→g≠g5→w5.heap[g]? = w4.heap[g]? := fun {g} h k=>by
  rw[← hw5,setRow_other _ g5 g _ k,setRow_other _ g4 g _ h]
 have rw5:∀ g,rows w5 g=rows w4 g:=fun g=>by rw[← hw5,Z1I _ g5 #[u5] #[.int .i64 19] _ f5 rfl,Z1I _ g4 #[u4] #[.slice none 0 0] _ d4 rfl]
 have z5:w5.heap.size=w4.heap.size:=by rw[← hw5];simp[World.setRow]
 have os5:w5.os=w4.os∧w5.tape=w4.tape∧w5.output=w4.output:=by rw[← hw5];exact⟨rfl,rfl,rfl⟩
 have rl5:w5.heap[l]? = some (Obj.loop { state:=.busy,pending:=none,fn:=fn,tmps:=a0,params := #[12,13],assign:=asgF Tryz.f47 0,body:=bodF Tryz.f47 0,defers:=D }):=by
  rw[sm n4.symm n5.symm];exact same4 rl2
 have m4:g4≠D:=by rintro rfl;rw[c4]at rD;cases rD
 have m5:g5≠D:=by rintro rfl;rw[c5]at rD;cases rD
 refine wpIn_ret ?_
 show Q .ret _ w5
 rw[← hQ]
 refine⟨_,_,run_endRound (some .ret) rl5,rfl,World.putObj_heap_same (Array.getElem?_eq_some_iff.1 rl5).1, ?_, ?_, ?_, ?_⟩
 ·rw[World.putObj_heap_other nD,sm m4.symm m5.symm]
  exact same4 (by rw[hs2 _ nD];exact same1 rD)
 ·rw[World.putObj_heap_other n4,← hw5,setRow_other _ g5 g4 _ h45];exact e4
 ·rw[World.putObj_heap_other n5,← hw5];exact setRow_self f5
 ·have rowl:∀ (X:World) (o:Obj) (g:Nat),(∃ r,X.heap[l]? = some (.loop r))→(∃ r,o = .loop r)→rows (X.putObj l o) g=rows X g:=by
   rintro X o g ⟨r,hr⟩ ⟨r',rfl⟩
   by_cases hg:g=l
   ·subst hg;simp[rows,hr,World.putObj_heap_same (Array.getElem?_eq_some_iff.1 hr).1]
   ·simp only[rows,World.putObj_heap_other hg]
  refine⟨os5.1.trans (K4.os.trans (hos2.1.trans K1.os)),os5.2.1.trans (K4.tape.trans (hos2.2.1.trans K1.tape)),os5.2.2.trans (K4.output.trans (hos2.2.2.trans K1.output)), ?_,fun g hg hn=>?_,fun g hg=>?_⟩
  ·rw[World.putObj_size,z5];have:=K1.size;have:=K4.size;omega
  ·have q1:g≠l:=fun e=>hn (.inl e)
   have q2:g≠g4:=fun e=>hn (.inr (.inl e))
   have q3:g≠g5:=fun e=>hn (.inr (.inr e))
   have:=K1.size
   rw[World.putObj_heap_other q1,sm q2 q3,K4.block g (by omega) (fun q=>q),hs2 g q1,K1.block g hg (fun q=>q)]
  ·have:=K1.size
   rw[rowl _ _ _ ⟨_,rl5⟩ ⟨_,rfl⟩,rw5,K4.rows g (by omega),← hw2,rowl _ _ _ ⟨_,same1 rl⟩ ⟨_,rfl⟩,K1.rows g hg]
end Go.Proofs.YtjflpmnenhdeeaaGreat
namespace Go.Proofs.YtjflpmnenhdeeaaGreat
open Go.Sx Go.RowKit
def Z13(l:List Found):AV:=.d (.sl 4 (l.map Found.dv))
def Z0L(h:Heap)(i:Int):List Found×Int:=if(Z2b h i).2=true then((Z2b h i).1,0)else([],19)
def LK(w00:World)(g6:Nat)(prot:List (Nat×Obj))(A:Nat→Prop)(pre:List Found)(W:World):Prop:=LJ g6 prot A pre W∧Kept (fun _=>False) w00 W∧∀ g,A g→w00.heap.size≤g
def recV(F:Func)(fn:Nat)(a0:Array Value)(D:Nat)(st:LoopState)(pe:Option Code):Obj:=.loop { state:=st,pending:=pe,fn:=fn,tmps:=a0,params := #[12,13],assign:=asgF F 0,body:=bodF F 0,defers:=D }
def LX(w00:World)(fn:Nat)(a0:Array Value)(l D g4 g5:Nat)(W:World):Prop :=
 W.heap[l]? = some (recV Tryz.f47 fn a0 D .done (some .ret))∧W.heap[D]? = some (.deferred (some []))∧W.heap[g4]? = some (.cells #[.slice none 0 0] 85 (0,0))∧W.heap[g5]? = some (.cells #[.int .i64 19] 40 (0,0))∧Kept (fun _=>False) w00 W
theorem Zks{w00:World}{fn:Nat}{a0:Array Value}{D l n g4 g5 g6:Nat}{u4 u5:Value}(ha0:a0.size=22)(ha4:a0[4]? = some (.pointer (some ⟨g4,0,none⟩)))(ha5:a0[5]? = some (.pointer (some ⟨g5,0,none⟩)))(ha6:a0[6]? = some (.pointer (some ⟨g6,0,none⟩)))
  (h45:g4≠g5) (h4:w00.heap.size≤g4) (h5:w00.heap.size≤g5) (hl:w00.heap.size≤l) :
  Rnd l n (LK w00 g6 [(l,recV Tryz.f47 fn a0 D .ready none),(D,.deferred (some [])),(g4,.cells #[u4] 85 (0,0)),(g5,.cells #[u5] 40 (0,0))]) (LX w00 fn a0 l D g4 g5):=by
 refine⟨fun A pre X Y ⟨J,K,hA⟩ k=>⟨J.keep k,Z3t K k (fun _ h=>h.elim),hA⟩,fun A pre X ⟨⟨ρ,h1,I,_⟩,_,_⟩ g hg=>?_,fun A pre X x ⟨J,K,hA⟩ hlen=>?_,fun A pre X ⟨J,K,hA⟩ _=>?_⟩
 ·obtain⟨b,β,k1,k2⟩:=(h1 g).1 hg
  exact I.bnd b β g k1 k2
 ·obtain⟨fn',t,s,b,q1,q2⟩:=Zha (n:=n) (D:=D) hlen ha0 ha6 (List.mem_cons_self) J x
  refine⟨fn',t,s,b,q1,q2.mono ?_⟩
  rintro e W' ⟨rfl,A',J',hA',K'⟩
  refine⟨rfl,A',⟨J',Z3t K K' hA,fun g hg=>?_⟩,hA',K'⟩
  rcases hA' g hg with h | h
  ·exact hA g h
  ·exact Nat.le_trans K.size h
 ·obtain⟨ρ,_,_,_,_,_,hp⟩:=J
  have p1:=(hp (l,recV Tryz.f47 fn a0 D .ready none) (by simp)).1
  have p2:=(hp (D,.deferred (some [])) (by simp)).1
  have p3:=(hp (g4,.cells #[u4] 85 (0,0)) (by simp)).1
  have p4:=(hp (g5,.cells #[u5] 40 (0,0)) (by simp)).1
  obtain⟨fn',t,s,b,q1,q2⟩:=Zjc (n:=n) ha0 ha4 ha5 p1 p2 p3 p4 h45
  refine⟨fn',t,s,b,q1,q2.mono ?_⟩
  rintro e W' ⟨rfl,m1,m2,m3,m4,K'⟩
  refine⟨rfl,m1,m2,m3,m4,Z3t K K' (fun g hg=>?_)⟩
  rcases hg with rfl | rfl | rfl<;>assumption
theorem Zi7{w00 W:World}{g6:Nat}{prot:List (Nat×Obj)}{A:Nat→Prop}{pre:List Found}(J:LK w00 g6 prot A pre W):∃ sv,W.heap[g6]? = some (.cells #[sv] 85 (0,0))∧sv.oneCell'=true∧A g6∧∃ Im:Nat→Prop,(∀ g,Im g→A g∧g<W.heap.size)∧RelD W Im (.sl 4 (pre.map Found.dv)) sv:=by
 obtain⟨⟨ρ,hA,I,⟨s6,n6,h6⟩,hs,hr,hp⟩,K,hge⟩:=J
 obtain⟨β,m1,m2⟩:=I.blk 6 _ rfl
 rw[h6]at m1;cases m1
 obtain⟨_,_,g,cs,e1,e2,e3,e4,e5⟩:=m2
 cases e1
 have hc:cs.size=1:=e3
 obtain⟨sv,rfl⟩:∃ sv,cs = #[sv]:=⟨cs[0],by
  apply Array.ext
  ·simp[hc]
  ·intro k hk _
   rcases k with _ | k
   ·rfl
   ·omega⟩
 have hsv:Rel ρ W (fun _=>False) (.ow 8020) sv:=e5 0 _ sv rfl rfl
 have hA6:A g6:=(hA g6).2 ⟨6,_,h6,rfl⟩
 refine⟨sv,e2,e4 0 sv rfl,hA6, ?_⟩
 obtain⟨β2,k1,k2⟩:=I.blk 8020 _ rfl
 let ρ':Rho:=fun b=>if b=8020 then ρ 8020 else none
 have hρ:∀ b β,ρ' b=some β→b=8020∧ρ 8020=some β:=by
  intro b β h
  simp only[ρ']at h
  split at h
  ·exact⟨‹_›,h⟩
  ·cases h
 have I2:Sx.Inv (fun _=>False) (fun _=>False) w00 ρ' W (fun _=>False) (hOf [(8020,.arr 132 4 (pre.map Found.dv))]) 20:=by
  refine⟨K,fun b b' β β' g _ _ q1 q2 _ _=>by rw[(hρ _ _ q1).1,(hρ _ _ q2).1],fun _ _ _ _ _ _ h=>h,fun b β g q1 q2=>I.bnd _ _ g (hρ _ _ q1).2 q2,fun b β g q1 q2=>.inl ⟨hge g ((hA g).2 ⟨8020,β,(hρ _ _ q1).2,q2⟩),by rw[(hρ _ _ q1).1];decide⟩,fun _ h=>h.elim,fun _ h=>h.elim,fun b B hB=>?_,fun b hb _=>?_,by decide⟩
  ·simp only[hOf]at hB
   split at hB
   ·cases hB
    rename_i hb
    subst hb
    exact⟨β2,by simp only[ρ',if_true];exact k1,k2.mono (Ext.refl _ _) (fun _ h=>h) (fun _ _ h=>h) I.bnd (fun _ _=>rfl) |> fun h=>by
     obtain⟨a1,a2,a3,a4,a5⟩:=h
     exact⟨a1,a2,a3,a4,a5⟩⟩
   ·cases hB
  ·simp only[ρ']
   rw[if_neg (by omega)]
 have hx:Rel ρ' W (fun _=>False) (.ow 8020) sv:=by
  cases hsv with
  | ow q1 q2 q3 q4=>exact .ow (by simp only[ρ',if_true];exact q1) q2 q3 q4
 have:=Z5A (keep:=[]) (fr:=true) (b:=8020) (els0:=pre.map Found.dv) I2 hx rfl (by simp) ⟨_,rfl,by simp⟩ (fun e he=>he) (fun _=>Zin pre) (fun a n c hv hn=>by
  subst hv
  cases hx with
  | ow q1 q2 q3 q4 =>
   rcases q4 with q4 | ⟨g,q5,q6,_⟩
   ·omega
   ·cases q6;exact⟨_,q1,q5⟩)
 refine⟨_,fun g hg=>?_,this⟩
 rcases hg with⟨h,_⟩ | ⟨b,β,_,_,q1,q2⟩
 ·cases h
 ·exact⟨(hA g).2 ⟨8020,β,(hρ _ _ q1).2,q2⟩,I.bnd _ _ g (hρ _ _ q1).2 q2⟩
end Go.Proofs.YtjflpmnenhdeeaaGreat
namespace Go.Proofs.YtjflpmnenhdeeaaGreat
open Go.Sx
def hasL(l:List Int)(v:Int)(i:Nat):Tg:=⟨tm 18 [(0,Z02 l),(1,u64 v),(4,bool false),(5,int i)],[],60⟩
theorem ZdJ(l:List Int)(v:Int)(i:Nat)(hl:l.length≤1048576)(hi:i<l.length)(hv:¬ l.getD i default=v):CSpec Tryz.prog (rndF Tryz.f13 0) (hasL l v i).st .nrm (hasL l v (i+1)).st:=by
 exact sF [] [] (Fl 8 wdv l (Ftb 9 (decide ((↑i:Int)<(↑l.length:Int))) (Fek 14 wdv l (↑i) i (Ffb 17 (l.getD i default==v) (Fx 11 i Fz)))))
theorem Zix(l:List Int)(v:Int)(i:Nat)(hl:l.length≤1048576)(hi:i<l.length)(hv:l.getD i default=v):CSpec Tryz.prog (rndF Tryz.f13 0) (hasL l v i).st .ret (Tg.st ⟨tm 18 [(4,bool true)],[],60⟩):=by
 exact sF [] [] (Fl 8 wdv l (Ftb 9 (decide ((↑i:Int)<(↑l.length:Int))) (Fek 14 wdv l (↑i) i (Ftb 17 (l.getD i default==v) Fz))))
theorem hasEnd(l:List Int)(v:Int):CSpec Tryz.prog (rndF Tryz.f13 0) (hasL l v l.length).st (.ext 0) (Tg.st ⟨tm 18 [],[],60⟩):=by
 exact sF [] [] (Fl 8 wdv l (Ffb 9 (decide ((↑l.length:Int)<(↑l.length:Int))) Fz))
theorem getD_mem_iff{l:List Int}{v:Int}:v∈l↔∃ i,i<l.length∧l.getD i default=v:=by
 rw[List.mem_iff_getElem]
 constructor
 ·rintro⟨i,h,e⟩;exact⟨i,h,by simp[List.getD,h,e]⟩
 ·rintro⟨i,h,e⟩;exact⟨i,h,by simpa[List.getD,h]using e⟩
theorem Zkj(l:List Int)(v:Int)(hl:l.length≤1048576)(h:v∉l):CSpec Tryz.prog (blkF Tryz.f13 0) (Tg.st ⟨tm 18 [(0,Z02 l),(1,u64 v),(4,bool false),(5,int 0)],[],60⟩) .nrm (Tg.st ⟨tm 18 [],[],60⟩) :=
 Z0c (S:=fun i=>(hasL l v i).st) l.length (by kernel_rfl) (fun i hi=>ZdJ l v i hl hi fun e=>h (getD_mem_iff.2 ⟨i,hi,e⟩)) (hasEnd l v)
theorem ZjJ(l:List Int)(v:Int)(hl:l.length≤1048576)(h:v∈l):CSpec Tryz.prog (blkF Tryz.f13 0) (Tg.st ⟨tm 18 [(0,Z02 l),(1,u64 v),(4,bool false),(5,int 0)],[],60⟩) .ret (Tg.st ⟨tm 18 [(4,bool true)],[],60⟩):=by
 obtain⟨i,h1,h2⟩:=ZfY (getD_mem_iff.1 h)
 exact Z0Q (S:=fun i=>(hasL l v i).st) i (by kernel_rfl) (fun j hj=>ZdJ l v j hl (by omega) fun e=>by have:=h2 j ⟨by omega,e⟩;omega) (Zix l v i hl h1.1 h1.2)
theorem Z0X(l:List Int)(v:Int)(hl:l.length≤1048576):GSpec Tryz.prog 13 [Z02 l,u64 v] true (bool (decide (v∈l))) []:=by
 by_cases h:v∈l
 ·rw[decide_eq_true h]
  exact gF [] Tryz.func13 [] (Fu (@ZjJ l v ‹_› ‹_›) Fz)
 ·rw[decide_eq_false h]
  exact gF [] Tryz.func13 [] (Fu (@Zkj l v ‹_› ‹_›) Fz)
theorem Zbd{h:Heap}{i:Int}:∀ {f:Nat} {o:Int} {l:List Int},Z2O h i f o=some l→l.length≤f
 | 0,o,l,e=>by simp[Z2O]at e;subst e;simp
 | f+1,o,l,e=>by
  unfold Z2O at e
  split at e
  ·split at e
   ·split at e
    ·cases e;simp
    ·rw[Option.map_eq_some_iff]at e
     obtain⟨m,hm,rfl⟩:=e
     have:=Zbd hm
     simp;omega
   ·cases e
  ·cases e;simp
theorem Z4p(h:Heap)(i:Int):(Z0r h i).1.length≤256:=by
 unfold Z0r
 repeat' split
 all_goals first | (simp;done) | (rename_i e;exact Zbd e)
def Z0v(h:Heap):Nat→Nat→List Int×Int
 | 0,_=>([],0)
 | f+1,i=>if(Z0r h i).2=0 then(if(Z0v h f (i+1)).2=0 then((Z0r h i).1++(Z0v h f (i+1)).1,0)else([],(Z0v h f (i+1)).2))else([],(Z0r h i).2)
def Z01(h:Heap):List Int×Int:=if Z03 h=true then Z0v h h.pages.length 0 else([],1)
def Z6D(h:Heap)(i:Nat)(acc:List Int):Tg:=⟨tm 31 [(1,.pt 8001 0 0),(2,.d (.sl 0 [])),(3,int 0),(4,.ow 24004),(5,int i)],[(24004,.arr 39 1 (acc.map wdv)),(8001,.box 28 h.cells)],60⟩
section
variable (h:Heap) (i:Nat) (acc:List Int) (hw:WOk h.words) (hl:h.pages.length≤1048576) (ha:acc.length≤1048576)
include hw hl ha
theorem Zdg(hi:i<h.pages.length)(e:(Z0r h i).2=0):CSpec Tryz.prog (rndF Tryz.f43 0) (Z6D h i acc).st .nrm (Z6D h (i+1) (acc++(Z0r h i).1)).st:=by
 have hn:=Z4p h i
 exact sF [(504029,24004)] [] (Fh 29 [.els (List.map wdv (acc++(Z0r h (↑i:Int)).fst))] (Fl 14 Page.dv h.pages (Ftb 15 (decide ((↑i:Int)<(↑h.pages.length:Int))) (Fc 21 (@Z3o h ((↑i:Int)) ‹_›) (Ffb 25 ((Z0r h (↑i:Int)).snd != 0) (Fa (by(simp[*];omega):(List.map wdv acc).length+(List.map wdv (Z0r h (↑i:Int)).fst).length≤2^30) (Fa (by simp[List.map_take,List.map_drop,List.map_set,List.map_append,wdv,idv]:List.map wdv acc++List.map wdv (Z0r h (↑i:Int)).fst=List.map wdv (acc++(Z0r h (↑i:Int)).fst)) (Fx 17 i Fz))))))))
theorem ZhM(hi:i<h.pages.length)(e:¬ (Z0r h i).2=0):CSpec Tryz.prog (rndF Tryz.f43 0) (Z6D h i acc).st .ret (Tg.st ⟨tm 31 [(2,.d (.sl 0 [])),(3,int (Z0r h i).2)],[],60⟩):=by
 exact sF [] [] (Fl 14 Page.dv h.pages (Ftb 15 (decide ((↑i:Int)<(↑h.pages.length:Int))) (Fc 21 (@Z3o h ((↑i:Int)) ‹_›) (Ftb 25 ((Z0r h (↑i:Int)).snd != 0) Fz))))
omit hw hl ha in
theorem Zh7:CSpec Tryz.prog (rndF Tryz.f43 0) (Z6D h h.pages.length acc).st (.ext 0) (Tg.st ⟨tm 31 [(4,.ow 24004)],[(24004,.arr 39 1 (acc.map wdv))],60⟩):=by
 exact sF [] [] (Fl 14 Page.dv h.pages (Ffb 15 (decide ((↑h.pages.length:Int)<(↑h.pages.length:Int))) Fz))
end
theorem Zeo(h:Heap)(hw:WOk h.words)(hl:h.pages.length≤1048576):∀ (f i:Nat) (acc:List Int),i+f=h.pages.length→acc.length+256*f≤1048576 →
  ((Z0v h f i).2=0→LSpec Tryz.prog Tryz.f43 0 (Z6D h i acc).st (.ext 0) (Tg.st ⟨tm 31 [(4,.ow 24004)],[(24004,.arr 39 1 ((acc++(Z0v h f i).1).map wdv))],60⟩)) ∧
  (¬ (Z0v h f i).2=0→LSpec Tryz.prog Tryz.f43 0 (Z6D h i acc).st .ret (Tg.st ⟨tm 31 [(2,.d (.sl 0 [])),(3,int (Z0v h f i).2)],[],60⟩)):=by
 intro f
 induction f with
 | zero =>
  intro i acc hi _
  have:i=h.pages.length:=by omega
  subst this
  refine⟨fun _=>?_,fun e=>absurd rfl e⟩
  rw[Z0v,List.append_nil]
  exact .endx (Zh7 h acc)
 | succ f ih =>
  intro i acc hi hb
  have hn:=Z4p h i
  unfold Z0v
  by_cases e:(Z0r h i).2=0
  ·rw[if_pos e]
   have hr:=Zdg h i acc hw hl (by omega) (by omega) e
   obtain⟨i1,i2⟩:=ih (i+1) (acc++(Z0r h i).1) (by omega) (by simp;omega)
   by_cases e2:(Z0v h f (i+1)).2=0
   ·rw[if_pos e2]
    refine⟨fun _=>?_,fun e=>absurd rfl e⟩
    have:=i1 e2
    rw[List.append_assoc]at this
    exact .next hr this
   ·rw[if_neg e2]
    exact⟨fun e=>absurd e e2,fun _=>.next hr (i2 e2)⟩
  ·rw[if_neg e]
   exact⟨fun e'=>absurd e' e,fun _=>.endr (ZhM h i acc hw hl (by omega) (by omega) e)⟩
theorem ZfD(h:Heap)(hw:WOk h.words)(hl:h.pages.length≤64)(e:(Z0v h h.pages.length 0).2=0):CSpec Tryz.prog (blkF Tryz.f43 0) (Tg.st ⟨tm 31 [(1,.pt 8001 0 0),(2,.d (.sl 0 [])),(3,int 0),(4,.ow 24004),(5,int 0)],[(24004,.arr 39 1 []),(8001,.box 28 h.cells)],60⟩) .nrm
  (Tg.st ⟨tm 31 [(4,.ow 24004)],[(24004,.arr 39 1 ((Z0v h h.pages.length 0).1.map wdv))],60⟩) :=
 ((Zeo h hw (by omega) h.pages.length 0 [] (by omega) (by simp;omega)).1 e).ext (by kernel_rfl)
theorem Z9Y(h:Heap)(hw:WOk h.words)(hl:h.pages.length≤64)(e:¬ (Z0v h h.pages.length 0).2=0):CSpec Tryz.prog (blkF Tryz.f43 0) (Tg.st ⟨tm 31 [(1,.pt 8001 0 0),(2,.d (.sl 0 [])),(3,int 0),(4,.ow 24004),(5,int 0)],[(24004,.arr 39 1 []),(8001,.box 28 h.cells)],60⟩) .ret
  (Tg.st ⟨tm 31 [(2,.d (.sl 0 [])),(3,int (Z0v h h.pages.length 0).2)],[],60⟩) :=
 ((Zeo h hw (by omega) h.pages.length 0 [] (by omega) (by simp;omega)).2 e).ret (by kernel_rfl)
theorem Zdb(h:Heap):∀ (f i:Nat),¬ (Z0v h f i).2=0→(Z0v h f i).1=[]
 | 0,i,e=>absurd rfl e
 | f+1,i,e=>by
  unfold Z0v at e ⊢
  split at e
  ·rename_i h1
   rw[if_pos h1]
   split at e
   ·exact absurd rfl e
   ·rename_i h2;rw[if_neg h2]
  ·rename_i h1;rw[if_neg h1]
theorem ZfF(h:Heap)(hw:WOk h.words):GSpec Tryz.prog 43 [h.av] false (.tu [Z02 (Z01 h).1,int (Z01 h).2]) []:=by
 cases hp:Z03 h with
 | false =>
  have e7:Z01 h=([],1):=by rw[Z01,if_neg (by rw[hp];simp)]
  rw[e7]
  exact gF [] Tryz.func43 [false] (Fc 9 (@Z0l h) (Ftb 10 (!Z03 h) (Fnl Fz)))
 | true =>
  have po:=Z09 hp
  have e7:Z01 h=Z0v h h.pages.length 0:=by rw[Z01,if_pos hp]
  by_cases e:(Z0v h h.pages.length 0).2=0
  ·exact gF [] Tryz.func43 [false,false,false,false,false,false,false,true] (Fh 4 [.own] (Fc 9 (@Z0l h) (Ffb 10 (!Z03 h) (Fu (@ZfD h ‹_› (by omega) ‹_›) (Fa (by refine congrArg _ ?_;rw[e7]:List.map wdv (Z0v h h.pages.length 0).fst=List.map wdv (Z01 h).fst) (Fa (by rw[e7,e]:0=(Z01 h).snd) Fz))))))
  ·have e8:=Zdb h _ _ e
   exact gF [] Tryz.func43 [false,false,false,false,false,false,false,true] (Fh 4 [.own] (Fc 9 (@Z0l h) (Ffb 10 (!Z03 h) (Fu (@Z9Y h ‹_› (by omega) ‹_›) (Fnl (Fa (by rw[e7,e8];rfl:[]=List.map wdv (Z01 h).fst) (Fa (by rw[e7]:(Z0v h h.pages.length 0).snd=(Z01 h).snd) Fz)))))))
theorem Z7K{h:Heap}(hv:Z07 h.conf=true){i:Int}:∀ {f:Nat} {o:Int} {l:List Int},Z2O h i f o=some l→∀ x∈l,0≤x∧x≤8192
 | 0,o,l,e=>by simp[Z2O]at e;subst e;simp
 | f+1,o,l,e=>by
  have ar:=Z3F hv i o
  unfold Z2O at e
  split at e
  ·split at e
   ·split at e
    ·cases e
     intro x hx
     simp at hx;subst hx;exact ar
    ·rw[Option.map_eq_some_iff]at e
     obtain⟨m,hm,rfl⟩:=e
     intro x hx
     rcases List.mem_cons.1 hx with rfl | hx
     ·exact ar
     ·exact Z7K hv hm x hx
   ·cases e
  ·cases e;simp
theorem Z5H{h:Heap}(hp:Z03 h=true)(i:Int):∀ x∈(Z0r h i).1,0≤x∧x≤8192:=by
 have hv:=(Z09 hp).1
 unfold Z0r
 repeat' split
 all_goals first | (simp;done) | (rename_i e;exact Z7K hv e)
theorem Z6m{h:Heap}(hp:Z03 h=true):∀ (f i:Nat),∀ x∈(Z0v h f i).1,0≤x∧x≤8192
 | 0,i=>by simp[Z0v]
 | f+1,i=>by
  unfold Z0v
  split
  ·split
   ·intro x hx
    rcases List.mem_append.1 hx with hx | hx
    ·exact Z5H hp i x hx
    ·exact Z6m hp f (i+1) x hx
   ·simp
  ·simp
theorem Z7W(h:Heap):∀ (f i:Nat),(Z0v h f i).1.length≤256*f
 | 0,i=>by simp[Z0v]
 | f+1,i=>by
  have h1:=Z4p h i
  have h2:=Z7W h f (i+1)
  unfold Z0v
  split
  ·split
   ·simp;omega
   ·simp
  ·simp
theorem Z6g(h:Heap):∀ x∈(Z01 h).1,0≤x∧x≤8192:=by
 unfold Z01
 split
 ·exact Z6m ‹_› _ _
 ·simp
theorem Z45(h:Heap):(Z01 h).1.length≤16384:=by
 unfold Z01
 split
 ·rename_i hp
  have:=Z7W h h.pages.length 0
  have:=Z09 hp
  omega
 ·simp
def Z34(h:Heap)(a:Int):Bool:=decide ((atH h a).1.kind≠0)
def Z08(h:Heap):List Int×Int:=((Z01 h).1.filter (Z34 h),(Z01 h).2)
theorem Z5j(h:Heap):∀ x∈(Z08 h).1,0≤x∧x≤8192:=fun x hx=>Z6g h x (List.mem_filter.1 hx).1
theorem Z3v(h:Heap):(Z08 h).1.length≤16384:=Nat.le_trans (List.length_filter_le _ _) (Z45 h)
theorem ZbE{l:List Int}{i:Nat}(hi:i<l.length):l.take (i+1)=l.take i++[l.getD i default]:=by
 rw[List.take_succ]
 simp[List.getD,hi]
def ZjP(h:Heap)(l:List Int)(ee:Int)(i:Nat):Tg:=⟨tm 42 [(1,.pt 8001 0 0),(4,Z02 l),(5,int ee),(6,.ow 24006),(7,int i)],[(24006,.arr 39 1 (((l.take i).filter (Z34 h)).map wdv)),(8001,.box 28 h.cells)],60⟩
theorem Zhn(h:Heap)(l:List Int)(ee:Int)(i:Nat)(hw:WOk h.words)(hl:l.length≤1048576)(hr:∀ x∈l,0≤x∧x≤8192)(hi:i<l.length):CSpec Tryz.prog (rndF Tryz.f12 0) (ZjP h l ee i).st .nrm (ZjP h l ee (i+1)).st:=by
 have hx:=hr (l.getD i default) (getD_mem_iff.2 ⟨i,hi,rfl⟩)
 have hle:((l.take i).filter (Z34 h)).length≤l.length:=Nat.le_trans (List.length_filter_le _ _) (by simp;omega)
 have ht:=ZbE hi
 by_cases hk:(atH h (l.getD i default)).1.kind=0
 ·have e:(l.take (i+1)).filter (Z34 h)=(l.take i).filter (Z34 h):=by
   have hb:Z34 h (l.getD i default)=false:=decide_eq_false (by simpa using hk)
   rw[ht,List.filter_append,List.filter_cons,hb,List.filter_nil];simp
  exact sF [] [false,false,false,false,false,true] (Fl 17 wdv l (Ftb 18 (decide ((↑i:Int)<(↑l.length:Int))) (Fek 25 wdv l (↑i) i (Fc 27 (@Z3d h (l.getD i default) ‹_› (by omega)) (Ffb 32 ((atH h (l.getD i default)).fst.kind != 0) (Fx 20 i (Fr (39:Int) (Fa (by refine congrArg _ ?_;rw[e]:List.map wdv (List.filter (Z34 h) (List.take i l))=List.map wdv (List.filter (Z34 h) (List.take (i+1) l))) Fz))))))))
 ·have e:(l.take (i+1)).filter (Z34 h)=(l.take i).filter (Z34 h)++[l.getD i default]:=by
   have hb:Z34 h (l.getD i default)=true:=decide_eq_true hk
   rw[ht,List.filter_append,List.filter_cons,hb,List.filter_nil];simp
  exact sF [(504039,24006)] [false,false,false,false,false,true] (Fh 39 [.els (List.map wdv (List.filter (Z34 h) (List.take i l)++[l.getD i default]))] (Fl 17 wdv l (Ftb 18 (decide ((↑i:Int)<(↑l.length:Int))) (Fek 25 wdv l (↑i) i (Fc 27 (@Z3d h (l.getD i default) ‹_› (by omega)) (Ftb 32 ((atH h (l.getD i default)).fst.kind != 0) (Fek 36 wdv l (↑i) i (Fs 38 (List.map wdv [l.getD i default]) (Fa (by(simp[*];omega):(List.map wdv (List.filter (Z34 h) (List.take i l))).length+(List.map wdv [l.getD i default]).length≤2^30) (Fa (by simp[List.map_take,List.map_drop,List.map_set,List.map_append,wdv,idv]:List.map wdv (List.filter (Z34 h) (List.take i l))++List.map wdv [l.getD i default]=List.map wdv (List.filter (Z34 h) (List.take i l)++[l.getD i default])) (Fx 20 i (Fr (39:Int) (Fa (by refine congrArg _ ?_;rw[e]:List.map wdv (List.filter (Z34 h) (List.take i l)++[l.getD i default])=List.map wdv (List.filter (Z34 h) (List.take (i+1) l))) Fz)))))))))))))
theorem Zlt(h:Heap)(l:List Int)(ee:Int):CSpec Tryz.prog (rndF Tryz.f12 0) (ZjP h l ee l.length).st (.ext 0) (Tg.st ⟨tm 42 [(5,int ee),(6,.ow 24006)],[(24006,.arr 39 1 ((l.filter (Z34 h)).map wdv))],60⟩):=by
 have e:l.take l.length=l:=List.take_length
 exact sF [] [false,false,true] (Fl 17 wdv l (Ffb 18 (decide ((↑l.length:Int)<(↑l.length:Int))) (Fr (39:Int) (Fa (by refine congrArg _ ?_;rw[e]:List.map wdv (List.filter (Z34 h) (List.take l.length l))=List.map wdv (List.filter (Z34 h) l)) Fz))))
theorem ZiD(h:Heap)(l:List Int)(ee:Int)(hw:WOk h.words)(hl:l.length≤1048576)(hr:∀ x∈l,0≤x∧x≤8192):CSpec Tryz.prog (blkF Tryz.f12 0) (Tg.st ⟨tm 42 [(1,.pt 8001 0 0),(4,Z02 l),(5,int ee),(6,.ow 24006),(7,int 0)],[(24006,.arr 39 1 []),(8001,.box 28 h.cells)],60⟩) .nrm
  (Tg.st ⟨tm 42 [(5,int ee),(6,.ow 24006)],[(24006,.arr 39 1 ((l.filter (Z34 h)).map wdv))],60⟩) :=
 Z0c (S:=fun i=>(ZjP h l ee i).st) l.length (by kernel_rfl) (fun i hi=>Zhn h l ee i hw hl hr hi) (Zlt h l ee)
theorem Z3j(h:Heap)(hw:WOk h.words):GSpec Tryz.prog 12 [h.av] false (.tu [Z02 (Z08 h).1,int (Z08 h).2]) []:=by
 have hl:=Z45 h
 have hr:=Z6g h
 exact gF [] Tryz.func12 [] (Fh 6 [.own] (Fc 12 (@ZfF h ‹_›) (Fu (@ZiD h ((Z01 h).fst) ((Z01 h).snd) ‹_› (by omega) ‹_›) Fz)))
def Z4g(h:Heap)(p o:Int):Int:=(loadA h.words (address h.conf p o).1).1
theorem Z9U{c:Conf}(hv:Z07 c=true)(p o:Int):0≤(address c p o).1∧(address c p o).1≤8192:=by
 have ha:=area hv
 unfold address
 rw[if_pos hv]
 split
 ·rename_i hb
  have hb:=inB_iff.1 hb
  have:=ZdU hv hb.1 hb.2.1 hb.2.2.1 hb.2.2.2
  simp only;omega
 ·simp
theorem ZjA(h:Heap)(p o:Int)(hp:Z03 h=true):GSpec Tryz.prog 164 [h.av,int p,int o] true (u64 (Z4g h p o)) []:=by
 have po:=Z09 hp
 have ar:=Z9U po.1 p o
 exact gF [] Tryz.func164 [] (Fc 16 (@Z4Q h.conf p o) (Fc 23 (@Z1K h.words ((address h.conf p o).fst) (by omega) (by omega)) Fz))
theorem Z9V(h:Heap)(p o:Int)(hp:Z03 h=true):GSpec Tryz.prog 150 [h.av,int p,int o] true (u64 (Z4g h p o)) []:=by
 exact gF [] Tryz.func150 [] (Fc 10 (@ZjA h p o ‹_›) Fz)
theorem ZcW(h:Heap)(p o:Int)(hp:Z03 h=true)(h0:0≤p∧p<h.conf.pg)(h1:0≤o∧o≤64):GSpec Tryz.prog 151 [h.av,int p,int o] true (u64 (4096+p*h.conf.pw+o)) []:=by
 have po:=Z09 hp
 have ap:=Z2C po.1 h0.1 h0.2
 exact gF [] Tryz.func151 [] (Fi 11 (p*h.conf.pw) (Fi 12 (4096+p*h.conf.pw) (Fi 14 (4096+p*h.conf.pw+o) (Fv 15 (4096+p*h.conf.pw+o) Fz))))
def Z1j(l:List Page):Nat→Nat
 | 0=>0
 | i+1=>if(l.getD (i+1) default).kind=3 then Z1j l i else i+1
theorem Zml{h:Heap}(hp:Z03 h=true):(h.pages.getD 0 default).kind≠3:=by
 have hi:=properB_iff.1 hp
 have po:=Z09 hp
 have hr:=hi.2.2.2.2.2
 rw[ZaK (by omega) (by omega),Bool.and_eq_true]at hr
 have hc:=of_decide_eq_true hr.1
 unfold rchk at hc
 omega
def Zds(h:Heap)(i:Nat):Tg:=⟨tm 15 [(1,int i),(2,.pt 8002 0 0)],[(8002,.box 28 h.cells)],60⟩
theorem ZhG(h:Heap)(i:Nat)(hi:i+1<h.pages.length)(hl:h.pages.length≤1048576)(hk:(h.pages.getD (i+1) default).kind=3):CSpec Tryz.prog (rndF Tryz.f148 0) (Zds h (i+1)).st .nrm (Zds h i).st:=by
 have ei:((i+1:Nat):Int)-1=(i:Int):=by omega
 exact sF [] [] (Fek 8 Page.dv h.pages (↑(i+1):Int) (i+1) (Ftb 11 ((h.pages.getD (i+1) default).kind==3) (Fg 13 (by rw[wrapI' (by omega) (by omega)];omega:IntKind.i64.wrap ((↑(i+1):Int)-1)=(↑i:Int)) Fz)))
theorem Zhf(h:Heap)(i:Nat)(hi:i<h.pages.length)(hl:h.pages.length≤1048576)(hk:¬ (h.pages.getD i default).kind=3):CSpec Tryz.prog (rndF Tryz.f148 0) (Zds h i).st (.ext 0) (Tg.st ⟨tm 15 [(1,int i)],[],60⟩):=by
 exact sF [] [] (Fek 8 Page.dv h.pages (↑i) i (Ffb 11 ((h.pages.getD i default).kind==3) Fz))
theorem ZjY(h:Heap)(hp:Z03 h=true)(hl:h.pages.length≤1048576):∀ i,i<h.pages.length→LSpec Tryz.prog Tryz.f148 0 (Zds h i).st (.ext 0) (Tg.st ⟨tm 15 [(1,int (Z1j h.pages i))],[],60⟩)
 | 0,hi=>.endx (Zhf h 0 hi hl (Zml hp))
 | i+1,hi=>by
  unfold Z1j
  by_cases hk:(h.pages.getD (i+1) default).kind=3
  ·rw[if_pos hk]
   exact .next (ZhG h i hi hl hk) (ZjY h hp hl i (by omega))
  ·rw[if_neg hk]
   exact .endx (Zhf h (i+1) hi hl hk)
theorem Ziy(h:Heap)(i:Nat)(hp:Z03 h=true)(hi:i<h.pages.length)(hl:h.pages.length≤1048576):CSpec Tryz.prog (blkF Tryz.f148 0) (Zds h i).st .nrm (Tg.st ⟨tm 15 [(1,int (Z1j h.pages i))],[],60⟩) :=
 (ZjY h hp hl i hi).ext (by kernel_rfl)
theorem ZdV(h:Heap)(i:Nat)(hp:Z03 h=true)(hi:i<h.pages.length):GSpec Tryz.prog 148 [h.av,int i] true (int (Z1j h.pages i)) []:=by
 have po:=Z09 hp
 exact gF [] Tryz.func148 [] (Fu (@Ziy h i ‹_› ‹_› (by omega)) Fz)
def Z2u(h:Heap)(i:Int)(a:Int):Bool:=(decide ((h.pages.getD i.toNat default).kind=1)&&decide (Z00 h.conf<sizeH (atH h a).1))||(decide ((h.pages.getD i.toNat default).kind=2)&&decide ((atH h a).1.kind=0))
def Z2h(h:Heap)(i:Int)(l:List Int):Int:=(l.find? (Z2u h i)).getD 0
def Z9t(h:Heap)(i:Int)(l:List Int)(n:Nat):Tg:=⟨tm 61 [(1,int i),(2,Z02 l),(3,.pt 8003 0 0),(6,u64 0),(7,int n)],[(8003,.box 28 h.cells)],60⟩
section
variable (h:Heap) (i:Int) (l:List Int) (n:Nat) (hw:WOk h.words) (hl:l.length≤1048576) (hi:0≤i∧i<h.pages.length) (hp:h.pages.length≤1048576) (hr:∀ x∈l,0≤x∧x≤8192)
include hw hl hi hp hr
theorem Z9a(hn:n<l.length)(hb:Z2u h i (l.getD n default)=false):CSpec Tryz.prog (rndF Tryz.f120 0) (Z9t h i l n).st .nrm (Z9t h i l (n+1)).st:=by
 have hx:=hr (l.getD n default) (getD_mem_iff.2 ⟨n,hn,rfl⟩)
 have hm:=Z3A hw (l.getD n default)
 simp only[Z2u,bs]at hb
 exact sF [] [] (Fl 13 wdv l (Ftb 14 (decide ((↑n:Int)<(↑l.length:Int))) (Fek 21 wdv l (↑n) n (Fc 23 (@Z3d h (l.getD n default) ‹_› (by omega)) (Fc 27 (@Z1l ((atH h (l.getD n default)).fst) ‹_›) (Fc 30 (@Z17 h.conf) (Fe 35 Page.dv h.pages i (FeG 47 (!((h.pages.getD i.toNat default).kind==1&&!decide (sizeH (atH h (l.getD n default)).fst≤Z00 h.conf))) Page.dv h.pages i i.toNat (Ffb 56 ((h.pages.getD i.toNat default).kind==1&&!decide (sizeH (atH h (l.getD n default)).fst≤Z00 h.conf)||(h.pages.getD i.toNat default).kind==2&&(atH h (l.getD n default)).fst.kind==0) (Fx 16 n Fz))))))))))
theorem Zfx(hn:n<l.length)(hb:Z2u h i (l.getD n default)=true):CSpec Tryz.prog (rndF Tryz.f120 0) (Z9t h i l n).st .ret (Tg.st ⟨tm 61 [(6,u64 (l.getD n default))],[],60⟩):=by
 have hx:=hr (l.getD n default) (getD_mem_iff.2 ⟨n,hn,rfl⟩)
 have hm:=Z3A hw (l.getD n default)
 simp only[Z2u,bs]at hb
 refine stretchE [((13:Nat),[Hint.int (↑l.length:Int)]),((14:Nat),[Hint.br true]),((21:Nat),[Hint.el (wdv (l.getD n default))]),((23:Nat),[Hint.call true (AV.tu [(atH h (l.getD n default)).fst.av,int (atH h (l.getD n default)).snd]) []]),((27:Nat),[Hint.call true (int (sizeH (atH h (l.getD n default)).fst)) []]),((30:Nat),[Hint.call true (int (Z00 h.conf)) []]),((35:Nat),[Hint.el (h.pages.getD i.toNat default).dv]),((47:Nat),[Hint.el (h.pages.getD i.toNat default).dv]),((56:Nat),[Hint.br true]),((59:Nat),[Hint.el (wdv (l.getD n default))])] [] [] [] (φ:=(↑(List.map wdv l).length:Int)=(↑l.length:Int)∧decide ((↑n:Int)<(↑l.length:Int))=true∧true=true∧((0:Int)≤(↑n:Int)∧(List.map wdv l)[(↑n:Int).toNat]? = some (wdv (l.getD n default)))∧GSpec Tryz.prog 19 [h.av,u64 (l.getD n default)] true (AV.tu [(atH h (l.getD n default)).fst.av,int (atH h (l.getD n default)).snd]) []∧GSpec Tryz.prog 20 [(atH h (l.getD n default)).fst.av] true (int (sizeH (atH h (l.getD n default)).fst)) []∧GSpec Tryz.prog 32 [h.conf.av] true (int (Z00 h.conf)) []∧((0:Int)≤i∧(List.map Page.dv h.pages)[i.toNat]? = some (h.pages.getD i.toNat default).dv)∧((!((h.pages.getD i.toNat default).kind==(1:Int)&&!decide (sizeH (atH h (l.getD n default)).fst≤Z00 h.conf)))=true→(0:Int)≤i∧(List.map Page.dv h.pages)[i.toNat]? = some (h.pages.getD i.toNat default).dv)∧((h.pages.getD i.toNat default).kind==(1:Int)&&!decide (sizeH (atH h (l.getD n default)).fst≤Z00 h.conf)||(h.pages.getD i.toNat default).kind==(2:Int)&&(atH h (l.getD n default)).fst.kind==(0:Int))=true∧true=true∧(0:Int)≤(↑n:Int)∧(List.map wdv l)[(↑n:Int).toNat]? = some (wdv (l.getD n default))) ?_ (by kernel_rfl) (by kernel_rfl) (by kernel_rfl)
 exact⟨(by simp only[List.length_map]),(by(simp only[bs];omega)),rfl,(by exact elI (by omega) (by omega) (by omega)),(@Z3d (h) (l.getD n default) ‹_› (by omega)),(@Z1l ((atH h (l.getD n default)).fst) ‹_›),(@Z17 (h.conf)),(by exact elI (by omega) (by omega) (by omega)),(by intro hg;(try simp only[bs]at hg);exact elI (by omega) (by omega) (by omega)),(by(simp only[bs];omega)),rfl,(by exact elI (by omega) (by omega) (by omega))⟩
omit hw hl hi hp hr in
theorem ZiN:CSpec Tryz.prog (rndF Tryz.f120 0) (Z9t h i l l.length).st (.ext 0) (Tg.st ⟨tm 61 [(6,u64 0)],[],60⟩):=by
 exact sF [] [] (Fl 13 wdv l (Ffb 14 (decide ((↑l.length:Int)<(↑l.length:Int))) Fz))
end
theorem Zgz{l:List Int}{f:Int→Bool}(h:l.find? f=none):∀ n,n<l.length→f (l.getD n default)=false:=by
 intro n hn
 have:=List.find?_eq_none.1 h (l.getD n default) (getD_mem_iff.2 ⟨n,hn,rfl⟩)
 simpa using this
theorem Zbe{f:Int→Bool}:∀ {l:List Int} {x:Int},l.find? f=some x→∃ n,n<l.length∧l.getD n default=x∧f x=true∧∀ m,m<n→f (l.getD m default)=false
 | [],x,h=>by simp at h
 | a::l,x,h=>by
  rw[List.find?_cons]at h
  split at h
  ·rename_i ha
   cases h
   exact⟨0,by simp,rfl,ha,fun m hm=>by omega⟩
  ·rename_i ha
   obtain⟨n,h1,h2,h3,h4⟩:=Zbe h
   refine⟨n+1,by simp;omega,by simpa using h2,h3,fun m hm=>?_⟩
   cases m with
   | zero=>simpa using ha
   | succ m=>simpa using h4 m (by omega)
theorem Zg9(h:Heap)(i:Int)(l:List Int)(hw:WOk h.words)(hl:l.length≤1048576)(hi:0≤i∧i<h.pages.length)(hp:h.pages.length≤1048576)(hr:∀ x∈l,0≤x∧x≤8192)(hf:l.find? (Z2u h i)=none) :
  CSpec Tryz.prog (blkF Tryz.f120 0) (Tg.st ⟨tm 61 [(1,int i),(2,Z02 l),(3,.pt 8003 0 0),(6,u64 0),(7,int 0)],[(8003,.box 28 h.cells)],60⟩) .nrm (Tg.st ⟨tm 61 [(6,u64 0)],[],60⟩) :=
 Z0c (S:=fun n=>(Z9t h i l n).st) l.length (by kernel_rfl) (fun n hn=>Z9a h i l n hw hl hi hp hr hn (Zgz hf n hn)) (ZiN h i l)
theorem Zfb(h:Heap)(i:Int)(l:List Int)(x:Int)(hw:WOk h.words)(hl:l.length≤1048576)(hi:0≤i∧i<h.pages.length)(hp:h.pages.length≤1048576)(hr:∀ x∈l,0≤x∧x≤8192)(hf:l.find? (Z2u h i)=some x) :
  CSpec Tryz.prog (blkF Tryz.f120 0) (Tg.st ⟨tm 61 [(1,int i),(2,Z02 l),(3,.pt 8003 0 0),(6,u64 0),(7,int 0)],[(8003,.box 28 h.cells)],60⟩) .ret (Tg.st ⟨tm 61 [(6,u64 x)],[],60⟩):=by
 obtain⟨n,h1,h2,h3,h4⟩:=Zbe hf
 subst h2
 exact Z0Q (S:=fun n=>(Z9t h i l n).st) n (by kernel_rfl) (fun m hm=>Z9a h i l m hw hl hi hp hr (by omega) (h4 m hm)) (Zfx h i l n hw hl hi hp hr h1 h3)
theorem Z7T(h:Heap)(i:Int)(l:List Int)(hw:WOk h.words)(hl:l.length≤1048576)(hp:h.pages.length≤1048576)(hi:0≤i∧i<h.pages.length)(hr:∀ x∈l,0≤x∧x≤8192):GSpec Tryz.prog 120 [h.av,int i,Z02 l] true (u64 (Z2h h i l)) []:=by
 cases hf:l.find? (Z2u h i)with
 | none =>
  have e7:Z2h h i l=0:=by rw[Z2h,hf];rfl
  exact gF [] Tryz.func120 [false,false,false,false,false,false,true] (Fu (@Zg9 h i l ‹_› ‹_› ‹_› ‹_› ‹_› ‹_›) (Fa (by rw[e7]:0=Z2h h i l) Fz))
 | some x =>
  have e7:Z2h h i l=x:=by rw[Z2h,hf];rfl
  exact gF [] Tryz.func120 [false,false,false,false,false,false,true] (Fu (@Zfb h i l x ‹_› ‹_› ‹_› ‹_› ‹_› ‹_›) (Fa (by rw[e7]:x=Z2h h i l) Fz))
def bdv(x:Bool):List DV:=[.sc (.bool x)]
def Z8A(h:Heap)(a:Int):Int:=if(atH h a).1.kind=0 then 1 else sizeH (atH h a).1
def ZaH(h:Heap)(i:Int)(a:Int)(o:Nat):Bool:=decide (a-4096-i*h.conf.pw≤o)&&decide ((o:Int)<a-4096-i*h.conf.pw+Z8A h a)
def Z1A(h:Heap)(i:Int)(l:List Int):List Bool:=(List.range h.conf.pw.toNat).map fun o=>l.any fun a=>ZaH h i a o
def Z1t(h:Heap)(i:Int)(l:List Int)(a:Int)(w:Nat):List Bool:=(List.range h.conf.pw.toNat).map fun(o:Nat)=>(l.any fun a=>ZaH h i a o)||(decide (a-4096-i*h.conf.pw≤o)&&decide ((o:Int)<a-4096-i*h.conf.pw+w))
theorem Z97(h:Heap)(i:Int)(l:List Int)(a:Int)(w:Nat):(Z1t h i l a w).length=h.conf.pw.toNat:=by simp[Z1t]
theorem Zdj(h:Heap)(i:Int)(l:List Int)(a:Int):Z1t h i l a 0=Z1A h i l:=by
 unfold Z1t Z1A
 refine List.map_congr_left fun o _=>?_
 have:(decide (a-4096-i*h.conf.pw≤(o:Int))&&decide ((o:Int)<a-4096-i*h.conf.pw+(0:Nat)))=false:=by
  rw[Bool.and_eq_false_iff];simp;omega
 rw[this,Bool.or_false]
theorem ZcP{h:Heap}{i:Int}{l:List Int}{a:Int}{w:Nat}(hh:¬ (0≤a-4096+w-i*h.conf.pw∧a-4096+w-i*h.conf.pw<h.conf.pw)):Z1t h i l a (w+1)=Z1t h i l a w:=by
 unfold Z1t
 refine List.map_congr_left fun o ho=>?_
 have ho:=List.mem_range.1 ho
 congr 1
 rw[Bool.eq_iff_iff]
 simp
 omega
theorem ZeJ{h:Heap}{i:Int}{l:List Int}{a:Int}{w:Nat}(hh:0≤a-4096+w-i*h.conf.pw∧a-4096+w-i*h.conf.pw<h.conf.pw):(Z1t h i l a w).set (a-4096+w-i*h.conf.pw).toNat true=Z1t h i l a (w+1):=by
 apply List.ext_getElem?
 intro j
 rw[List.getElem?_set,Z97]
 unfold Z1t
 by_cases hjl:j<h.conf.pw.toNat
 ·rw[List.getElem?_map,List.getElem?_map,List.getElem?_range hjl,Option.map_some,Option.map_some]
  by_cases hj:(a-4096+w-i*h.conf.pw).toNat=j
  ·rw[if_pos hj,if_pos (by omega)]
   congr 1
   symm
   rw[Bool.or_eq_true]
   right
   rw[Bool.and_eq_true,decide_eq_true_eq,decide_eq_true_eq]
   omega
  ·rw[if_neg hj]
   congr 2
   rw[Bool.eq_iff_iff,Bool.and_eq_true,Bool.and_eq_true,decide_eq_true_eq,decide_eq_true_eq,decide_eq_true_eq]
   omega
 ·rw[if_neg (by omega),List.getElem?_map,List.getElem?_map,List.getElem?_eq_none (by simp;omega)]
  rfl
theorem Zfk{h:Heap}{i:Int}{l:List Int}{a:Int}(hn:0≤Z8A h a):Z1t h i l a (Z8A h a).toNat=Z1A h i (l++[a]):=by
 unfold Z1t Z1A
 refine List.map_congr_left fun o _=>?_
 rw[List.any_append]
 congr 1
 simp[ZaH]
 rw[Bool.eq_iff_iff]
 simp
 omega
theorem ZhS(h:Heap)(i:Int):Z1A h i []=List.replicate h.conf.pw.toNat false:=by
 unfold Z1A
 simp[List.map_const']
def Zga(h:Heap)(i:Int)(l:List Int)(k:Nat):Tg:=⟨tm 69 [(1,int i),(2,Z02 l),(3,.pt 8003 0 0),(7,.ow 16017),(8,int k)],[(16017,.arr 4 1 ((Z1A h i (l.take k)).map bdv)),(8003,.box 28 h.cells)],60⟩
def Zcq(h:Heap)(i:Int)(l m:List Int)(k:Nat)(n:Int)(w:Nat):Tg:=⟨tm 69 [(1,int i),(2,Z02 m),(3,.pt 8003 0 0),(7,.ow 16017),(8,int k),(11,int n),(12,int w)],[(16017,.arr 4 1 ((Z1t h i l (m.getD k default) w).map bdv)),(8003,.box 28 h.cells)],60⟩
theorem Zfe(h:Heap)(i:Int)(l m:List Int)(k:Nat)(n:Int)(w:Nat)(hp:Z03 h=true)(hm:m.length≤1048576)(hi:0≤i∧i<h.pages.length)(hr:0≤m.getD k default∧m.getD k default≤8192)(hk:k<m.length)(hn:n≤256)(hw:w<n):CSpec Tryz.prog (rndF Tryz.f149 2) (Zcq h i l m k n w).st .nrm (Zcq h i l m k n (w+1)).st:=by
 have po:=Z09 hp
 have ap:=Z2C po.1 hi.1 (by omega)
 have hlen:=Z97 h i l (m.getD k default) w
 by_cases hh:0≤m.getD k default-4096+w-i*h.conf.pw∧m.getD k default-4096+w-i*h.conf.pw<h.conf.pw
 ·have e:=ZeJ (l:=l) hh
  exact sF [] [false,false,false,false,false,false,false,false,false,false,false,true] (Fh 10067 [.els (List.map bdv ((Z1t h i l (m.getD k default) w).set (m.getD k default-4096+(↑w:Int)-i*h.conf.pw).toNat true))] (Ftb 40 (decide ((↑w:Int)<n)) (Fek 45 wdv m (↑k) k (Fi 47 (m.getD k default) (Fi 48 (m.getD k default-4096) (Fi 50 (m.getD k default-4096+(↑w:Int)) (Fi 55 (i*h.conf.pw) (Fi 56 (m.getD k default-4096+(↑w:Int)-i*h.conf.pw) (FlG 62 (decide (0≤m.getD k default-4096+(↑w:Int)-i*h.conf.pw)) bdv (Z1t h i l (m.getD k default) w) (Ftb 64 (decide (0≤m.getD k default-4096+(↑w:Int)-i*h.conf.pw)&&decide (m.getD k default-4096+(↑w:Int)-i*h.conf.pw<(↑(Z1t h i l (m.getD k default) w).length:Int))) (Fa (by grind[]:0≤m.getD k default-4096+(↑w:Int)-i*h.conf.pw∧(m.getD k default-4096+(↑w:Int)-i*h.conf.pw).toNat<(List.map bdv (Z1t h i l (m.getD k default) w)).length) (Fa (by grind[]:(m.getD k default-4096+(↑w:Int)-i*h.conf.pw).toNat<(List.map bdv (Z1t h i l (m.getD k default) w)).length) (Fa (by rw[List.map_set];rfl:(List.map bdv (Z1t h i l (m.getD k default) w)).set (m.getD k default-4096+(↑w:Int)-i*h.conf.pw).toNat [DV.sc (Value.bool true)]=List.map bdv ((Z1t h i l (m.getD k default) w).set (m.getD k default-4096+(↑w:Int)-i*h.conf.pw).toNat true)) (Fx 42 w (Fr (4:Int) (Fa (by refine congrArg _ ?_;exact e:List.map bdv ((Z1t h i l (m.getD k default) w).set (m.getD k default-4096+(↑w:Int)-i*h.conf.pw).toNat true)=List.map bdv (Z1t h i l (m.getD k default) (w+1))) Fz))))))))))))))))
 ·have e:=ZcP (l:=l) hh
  exact sF [] [false,false,false,false,false,false,false,false,false,false,false,true] (Ftb 40 (decide ((↑w:Int)<n)) (Fek 45 wdv m (↑k) k (Fi 47 (m.getD k default) (Fi 48 (m.getD k default-4096) (Fi 50 (m.getD k default-4096+(↑w:Int)) (Fi 55 (i*h.conf.pw) (Fi 56 (m.getD k default-4096+(↑w:Int)-i*h.conf.pw) (FlG 62 (decide (0≤m.getD k default-4096+(↑w:Int)-i*h.conf.pw)) bdv (Z1t h i l (m.getD k default) w) (Ffb 64 (decide (0≤m.getD k default-4096+(↑w:Int)-i*h.conf.pw)&&decide (m.getD k default-4096+(↑w:Int)-i*h.conf.pw<(↑(Z1t h i l (m.getD k default) w).length:Int))) (Fx 42 w (Fr (4:Int) (Fa (by refine congrArg _ ?_;rw[e]:List.map bdv (Z1t h i l (m.getD k default) w)=List.map bdv (Z1t h i l (m.getD k default) (w+1))) Fz))))))))))))
theorem ZjK(h:Heap)(i:Int)(l m:List Int)(k:Nat)(n:Int)(w:Nat)(hn:n≤w):CSpec Tryz.prog (rndF Tryz.f149 2) (Zcq h i l m k n w).st (.ext 2) (Tg.st ⟨tm 69 [(1,int i),(2,Z02 m),(3,.pt 8003 0 0),(7,.ow 16017),(8,int k)],[(16017,.arr 4 1 ((Z1t h i l (m.getD k default) w).map bdv)),(8003,.box 28 h.cells)],60⟩):=by
 exact sF [] [] (Ffb 40 (decide ((↑w:Int)<n)) Fz)
theorem Zbl(h:Heap)(i:Int)(m:List Int)(k:Nat)(n:Int)(hp:Z03 h=true)(hm:m.length≤1048576)(hi:0≤i∧i<h.pages.length)(hr:0≤m.getD k default∧m.getD k default≤8192)(hk:k<m.length)(hn:0≤n∧n≤256)(he:n=Z8A h (m.getD k default)):CSpec Tryz.prog (blkF Tryz.f149 2) (Tg.st ⟨tm 69 [(1,int i),(2,Z02 m),(3,.pt 8003 0 0),(7,.ow 16017),(8,int k),(11,int n),(12,int 0)],[(16017,.arr 4 1 ((Z1A h i (m.take k)).map bdv)),(8003,.box 28 h.cells)],60⟩) .nrm
  (Tg.st ⟨tm 69 [(1,int i),(2,Z02 m),(3,.pt 8003 0 0),(7,.ow 16017),(8,int k)],[(16017,.arr 4 1 ((Z1A h i (m.take (k+1))).map bdv)),(8003,.box 28 h.cells)],60⟩):=by
 have:=Z0c (S:=fun w=>(Zcq h i (m.take k) m k n w).st) n.toNat (by kernel_rfl) (fun w hw=>Zfe h i (m.take k) m k n w hp hm hi hr hk hn.2 (by omega)) (ZjK h i (m.take k) m k n n.toNat (by omega))
 have e1:Z1t h i (m.take k) (m.getD k default) n.toNat=Z1A h i (m.take (k+1)):=by
  rw[ZbE hk,he]
  exact Zfk (by omega)
 rw[e1]at this
 simp only[Zcq,Zdj]at this
 exact this
theorem Zgj(h:Heap)(i:Int)(l:List Int)(k:Nat)(hw:WOk h.words)(hp:Z03 h=true)(hl:l.length≤1048576)(hi:0≤i∧i<h.pages.length)(hr:∀ x∈l,0≤x∧x≤8192)(hk:k<l.length):CSpec Tryz.prog (rndF Tryz.f149 0) (Zga h i l k).st .nrm (Zga h i l (k+1)).st:=by
 have po:=Z09 hp
 have hx:=hr (l.getD k default) (getD_mem_iff.2 ⟨k,hk,rfl⟩)
 have hm:=Z3A hw (l.getD k default)
 have hs:=Z1E (atH h (l.getD k default)).1
 by_cases hf:(atH h (l.getD k default)).1.kind=0
 ·have e:Z8A h (l.getD k default)=1:=by rw[Z8A,if_pos hf]
  exact sF [] [] (Fl 20 wdv l (Ftb 21 (decide ((↑k:Int)<(↑l.length:Int))) (Fek 28 wdv l (↑k) k (Fc 30 (@Z3d h (l.getD k default) ‹_› (by omega)) (Fc 34 (@Z1l ((atH h (l.getD k default)).fst) ‹_›) (Ftb 37 ((atH h (l.getD k default)).fst.kind==0) (Fu (@Zbl h i l k (1) ‹_› ‹_› ‹_› ‹_› ‹_› (by omega) (by omega)) (Fx 23 k Fz))))))))
 ·have e:Z8A h (l.getD k default)=sizeH (atH h (l.getD k default)).1:=by rw[Z8A,if_neg hf]
  exact sF [] [] (Fl 20 wdv l (Ftb 21 (decide ((↑k:Int)<(↑l.length:Int))) (Fek 28 wdv l (↑k) k (Fc 30 (@Z3d h (l.getD k default) ‹_› (by omega)) (Fc 34 (@Z1l ((atH h (l.getD k default)).fst) ‹_›) (Ffb 37 ((atH h (l.getD k default)).fst.kind==0) (Fu (@Zbl h i l k (sizeH (atH h (l.getD k default)).fst) ‹_› ‹_› ‹_› ‹_› ‹_› ‹_› (by omega)) (Fx 23 k Fz))))))))
theorem Zlm(h:Heap)(i:Int)(l:List Int):CSpec Tryz.prog (rndF Tryz.f149 0) (Zga h i l l.length).st (.ext 0) (Tg.st ⟨tm 69 [(7,.ow 16017)],[(16017,.arr 4 1 ((Z1A h i l).map bdv))],60⟩):=by
 have e:l.take l.length=l:=List.take_length
 exact sF [] [false,true] (Fl 20 wdv l (Ffb 21 (decide ((↑l.length:Int)<(↑l.length:Int))) (Fr (4:Int) (Fa (by refine congrArg _ ?_;rw[e]:List.map bdv (Z1A h i (List.take l.length l))=List.map bdv (Z1A h i l)) Fz))))
theorem ZiC(h:Heap)(i:Int)(l:List Int)(hw:WOk h.words)(hp:Z03 h=true)(hl:l.length≤1048576)(hi:0≤i∧i<h.pages.length)(hr:∀ x∈l,0≤x∧x≤8192):CSpec Tryz.prog (blkF Tryz.f149 0) (Tg.st ⟨tm 69 [(1,int i),(2,Z02 l),(3,.pt 8003 0 0),(7,.ow 16017),(8,int 0)],[(16017,.arr 4 1 ((List.replicate h.conf.pw.toNat false).map bdv)),(8003,.box 28 h.cells)],60⟩) .nrm
  (Tg.st ⟨tm 69 [(7,.ow 16017)],[(16017,.arr 4 1 ((Z1A h i l).map bdv))],60⟩):=by
 have:=Z0c (S:=fun k=>(Zga h i l k).st) l.length (by kernel_rfl) (fun k hk=>Zgj h i l k hw hp hl hi hr hk) (Zlm h i l)
 simp only[Zga,List.take_zero,ZhS]at this
 exact this
theorem Zem(h:Heap)(i:Int)(l:List Int)(hw:WOk h.words)(hp:Z03 h=true)(hl:l.length≤1048576)(hi:0≤i∧i<h.pages.length)(hr:∀ x∈l,0≤x∧x≤8192):GSpec Tryz.prog 149 [h.av,int i,Z02 l] false (.d (.sl 1 ((Z1A h i l).map bdv))) []:=by
 have po:=Z09 hp
 exact gF [] Tryz.func149 [] (Fh 17 [.els (List.map bdv (List.replicate h.conf.pw.toNat false))] (Fb (0≤h.conf.pw∧h.conf.pw≤h.conf.pw∧h.conf.pw*((↑(nat_lit 0):Int)+1)≤2^48) (Fa (by rw[List.map_replicate];rfl:List.replicate h.conf.pw.toNat [DV.sc (Value.bool false)]=List.map bdv (List.replicate h.conf.pw.toNat false)) (Fu (@ZiC h i l ‹_› ‹_› ‹_› ‹_› ‹_›) Fz))))
def Z3N(h:Heap)(i:Nat):List Bool:=Z1A h i (Z0r h (Z1j h.pages i:Nat)).1
theorem Zc0(h:Heap)(i:Nat):(Z3N h i).length=h.conf.pw.toNat:=by simp[Z3N,Z1A]
theorem Ze5(l:List Page):∀ i,Z1j l i≤i
 | 0=>Nat.le_refl _
 | i+1=>by
  have:=Ze5 l i
  unfold Z1j
  split<;>omega
def Zfa(h:Heap)(i:Nat)(u:List Bool)(k:Nat):Tg:=⟨tm 43 [(1,int i),(2,.pt 8002 0 0),(4,u64 0),(7,.d (.sl 1 (u.map bdv))),(8,int k)],[(8002,.box 28 h.cells)],60⟩
section
variable (h:Heap) (i:Nat) (u:List Bool) (k:Nat) (hp:Z03 h=true) (hi:i<h.pages.length) (hu:u.length≤64)
include hp hi hu
theorem ZbJ(hk:k<u.length)(hd:u.getD k default=true∨Z4g h i k=0):CSpec Tryz.prog (rndF Tryz.f121 0) (Zfa h i u k).st .nrm (Zfa h i u (k+1)).st:=by
 have po:=Z09 hp
 rcases hd with hd | hd
 ·exact sF [] [] (Fl 23 bdv u (Ftb 24 (decide ((↑k:Int)<(↑u.length:Int))) (Fek 29 bdv u (↑k) k (FcG 36 (!u.getD k default) (fun hg=>by(try simp only[bs]at hg);exact @Z9V h ((↑i:Int)) ((↑k:Int)) (by(try simp only[bs]at hg);assumption)) (Ff 38 (by simp only[bs, *,true_or,or_true,true_and,and_true,not_true_eq_false,not_false_eq_true,Bool.true_eq_false,Bool.false_eq_true]:(!u.getD k default&&Z4g h (↑i:Int) (↑k:Int) != 0)=false) (Fx 26 k Fz))))))
 ·exact sF [] [] (Fl 23 bdv u (Ftb 24 (decide ((↑k:Int)<(↑u.length:Int))) (Fek 29 bdv u (↑k) k (FcG 36 (!u.getD k default) (fun hg=>by(try simp only[bs]at hg);exact @Z9V h ((↑i:Int)) ((↑k:Int)) (by(try simp only[bs]at hg);assumption)) (Ffb 38 (!u.getD k default&&Z4g h (↑i:Int) (↑k:Int) != 0) (Fx 26 k Fz))))))
theorem ZhD(hk:k<u.length)(hd:u.getD k default=false∧¬ Z4g h i k=0):CSpec Tryz.prog (rndF Tryz.f121 0) (Zfa h i u k).st .ret (Tg.st ⟨tm 43 [(4,u64 (4096+i*h.conf.pw+k))],[],60⟩):=by
 have po:=Z09 hp
 obtain⟨hd1,hd2⟩:=hd
 exact sF [] [] (Fl 23 bdv u (Ftb 24 (decide ((↑k:Int)<(↑u.length:Int))) (Fek 29 bdv u (↑k) k (FcG 36 (!u.getD k default) (fun hg=>by(try simp only[bs]at hg);exact @Z9V h ((↑i:Int)) ((↑k:Int)) (by(try simp only[bs]at hg);assumption)) (Ft 38 (by simp only[bs, *,true_or,or_true,true_and,and_true,not_true_eq_false,not_false_eq_true,Bool.true_eq_false,Bool.false_eq_true]:(!u.getD k default&&Z4g h (↑i:Int) (↑k:Int) != 0)=true) (Fc 42 (@ZcW h ((↑i:Int)) ((↑k:Int)) ‹_› (by omega) (by omega)) Fz))))))
omit hp hi hu in
theorem Zlj:CSpec Tryz.prog (rndF Tryz.f121 0) (Zfa h i u u.length).st (.ext 0) (Tg.st ⟨tm 43 [(4,u64 0)],[],60⟩):=by
 exact sF [] [] (Fl 23 bdv u (Ffb 24 (decide ((↑u.length:Int)<(↑u.length:Int))) Fz))
end
def badD(h:Heap)(i:Nat)(u:List Bool)(k:Nat):Bool:=!u.getD k default&&decide (Z4g h i k≠0)
def Z3U(h:Heap)(i:Nat)(u:List Bool):Int:=match (List.range u.length).find? (badD h i u)with | some k=>4096+i*h.conf.pw+k | none=>0
theorem Zjj(h:Heap)(i:Nat)(u:List Bool)(hp:Z03 h=true)(hi:i<h.pages.length)(hu:u.length≤64)(hf:(List.range u.length).find? (badD h i u)=none) :
  CSpec Tryz.prog (blkF Tryz.f121 0) (Tg.st ⟨tm 43 [(1,int i),(2,.pt 8002 0 0),(4,u64 0),(7,.d (.sl 1 (u.map bdv))),(8,int 0)],[(8002,.box 28 h.cells)],60⟩) .nrm (Tg.st ⟨tm 43 [(4,u64 0)],[],60⟩):=by
 refine Z0c (S:=fun k=>(Zfa h i u k).st) u.length (by kernel_rfl) (fun k hk=>ZbJ h i u k hp hi hu hk ?_) (Zlj h i u)
 have:=List.find?_eq_none.1 hf k (List.mem_range.2 hk)
 simp only[badD,bs]at this
 cases hb:u.getD k default with
 | true=>exact .inl rfl
 | false =>
  rw[hb]at this
  exact .inr (by simpa using this)
theorem ZhH(h:Heap)(i:Nat)(u:List Bool)(k:Nat)(hp:Z03 h=true)(hi:i<h.pages.length)(hu:u.length≤64)(hf:(List.range u.length).find? (badD h i u)=some k) :
  CSpec Tryz.prog (blkF Tryz.f121 0) (Tg.st ⟨tm 43 [(1,int i),(2,.pt 8002 0 0),(4,u64 0),(7,.d (.sl 1 (u.map bdv))),(8,int 0)],[(8002,.box 28 h.cells)],60⟩) .ret (Tg.st ⟨tm 43 [(4,u64 (4096+i*h.conf.pw+k))],[],60⟩):=by
 obtain⟨h1,h2,h3⟩:=List.find?_range_eq_some.1 hf
 have h2:=List.mem_range.1 h2
 refine Z0Q (S:=fun k=>(Zfa h i u k).st) k (by kernel_rfl) (fun m hm=>ZbJ h i u m hp hi hu (by omega) ?_) (ZhD h i u k hp hi hu h2 ?_)
 ·have:=h3 m hm
  simp only[badD,bs]at this
  cases hb:u.getD m default with
  | true=>exact .inl rfl
  | false =>
   rw[hb]at this
   exact .inr (by simpa using this)
 ·simp only[badD,bs]at h1
  exact⟨h1.1,h1.2⟩
theorem Zez(h:Heap)(i:Nat)(hw:WOk h.words)(hp:Z03 h=true)(hi:i<h.pages.length):GSpec Tryz.prog 121 [h.av,int i] true (u64 (Z3U h i (Z3N h i))) []:=by
 have po:=Z09 hp
 have hh:=Ze5 h.pages i
 have hn:=Z4p h (Z1j h.pages i:Nat)
 have hr:=Z5H hp (Z1j h.pages i:Nat)
 have hl:=Zc0 h i
 unfold Z3N at hl ⊢
 cases hf:(List.range (Z1A h i (Z0r h (Z1j h.pages i:Nat)).1).length).find? (badD h i (Z1A h i (Z0r h (Z1j h.pages i:Nat)).1))with
 | none =>
  have e7:Z3U h i (Z1A h i (Z0r h (Z1j h.pages i:Nat)).1)=0:=by rw[Z3U,hf]
  exact gF [] Tryz.func121 [false,false,false,false,false,false,true] (Fc 13 (@ZdV h i ‹_› ‹_›) (Fc 14 (@Z3o h ((↑(Z1j h.pages i):Int)) ‹_›) (Fc 20 (@Zem h ((↑i:Int)) ((Z0r h (↑(Z1j h.pages i):Int)).fst) ‹_› ‹_› (by omega) (by omega) ‹_›) (Fu (@Zjj h i (Z1A h (↑i:Int) (Z0r h (↑(Z1j h.pages i):Int)).fst) ‹_› ‹_› (by omega) ‹_›) (Fa (by rw[e7]:0=Z3U h i (Z1A h (↑i:Int) (Z0r h (↑(Z1j h.pages i):Int)).fst)) Fz)))))
 | some k =>
  have e7:Z3U h i (Z1A h i (Z0r h (Z1j h.pages i:Nat)).1)=4096+i*h.conf.pw+k:=by rw[Z3U,hf]
  exact gF [] Tryz.func121 [false,false,false,false,false,false,true] (Fc 13 (@ZdV h i ‹_› ‹_›) (Fc 14 (@Z3o h ((↑(Z1j h.pages i):Int)) ‹_›) (Fc 20 (@Zem h ((↑i:Int)) ((Z0r h (↑(Z1j h.pages i):Int)).fst) ‹_› ‹_› (by omega) (by omega) ‹_›) (Fu (@ZhH h i (Z1A h (↑i:Int) (Z0r h (↑(Z1j h.pages i):Int)).fst) k ‹_› ‹_› (by omega) ‹_›) (Fa (by rw[e7]:4096+(↑i:Int)*h.conf.pw+(↑k:Int)=Z3U h i (Z1A h (↑i:Int) (Z0r h (↑(Z1j h.pages i):Int)).fst)) Fz)))))
structure Finding where
 fault:Int
 page:Int
 addr:Int
 deriving DecidableEq,Inhabited
def Finding.av(f:Finding):AV:=.ag [int f.fault,int f.page,u64 f.addr]
def pageF(h:Heap)(i:Nat):Finding :=
 if(h.pages.getD i default).kind≠0∧(h.pages.getD i default).space≠h.space then⟨2,i,0⟩
 else if(Z0r h (i:Int)).2≠0 then⟨3,i,0⟩
 else if Z2h h (i:Int) (Z0r h (i:Int)).1≠0 then⟨5,i,Z2h h (i:Int) (Z0r h (i:Int)).1⟩
 else if Z3U h i (Z3N h i)≠0 then⟨4,i,Z3U h i (Z3N h i)⟩else⟨0,0,0⟩
theorem ZdI(h:Heap)(i:Nat)(hw:WOk h.words)(hp:Z03 h=true)(hi:i<h.pages.length):GSpec Tryz.prog 81 [h.av,int i] true (pageF h i).av []:=by
 have po:=Z09 hp
 have hn:=Z4p h (i:Int)
 have hr:=Z5H hp (i:Int)
 have Q0 {h_ c_ p_} (r_:Fq h_ c_ p_):=Fek 12 Page.dv h.pages (↑i) i (FeG 20 ((h.pages.getD i default).kind != 0) Page.dv h.pages (↑i) i r_)
 rcases bb ((h.pages.getD i default).kind != 0&&(h.pages.getD i default).space != h.space)with hc0 | hc0<;>have hc0p:=hc0<;>simp only[bs]at hc0p
 ·obtain⟨hc0pa,hc0pb⟩:=hc0p
  exact gF [] Tryz.func81 [false,false,false,false,false,false,false,false,false,true] (Q0 (Ft 26 hc0 (Fa (by(simp only[pageF];(repeat' split)<;>first | rfl | omega | (exfalso;omega) | simp_all):2=(pageF h i).fault) (Fa (by(simp only[pageF];(repeat' split)<;>first | rfl | omega | (exfalso;omega) | simp_all):(↑i:Int)=(pageF h i).page) (Fa (by(simp only[pageF];(repeat' split)<;>first | rfl | omega | (exfalso;omega) | simp_all):0=(pageF h i).addr) Fz)))))
 ·have Q1 {h_ c_ p_} (r_:Fq h_ c_ p_):=Q0 (Ff 26 hc0 (Fc 32 (@Z3o h ((↑i:Int)) ‹_›) r_))
  rcases bb ((Z0r h (↑i:Int)).snd != 0)with hc1 | hc1<;>have hc1p:=hc1<;>simp only[bs]at hc1p
  ·exact gF [] Tryz.func81 [false,false,false,false,false,false,false,false,false,true] (Q1 (Ft 36 hc1 (Fa (by(simp only[pageF];(repeat' split)<;>first | rfl | omega | (exfalso;omega) | simp_all):3=(pageF h i).fault) (Fa (by(simp only[pageF];(repeat' split)<;>first | rfl | omega | (exfalso;omega) | simp_all):(↑i:Int)=(pageF h i).page) (Fa (by(simp only[pageF];(repeat' split)<;>first | rfl | omega | (exfalso;omega) | simp_all):0=(pageF h i).addr) Fz)))))
  ·have Q2 {h_ c_ p_} (r_:Fq h_ c_ p_):=Q1 (Ff 36 hc1 (Fc 42 (@Z7T h ((↑i:Int)) ((Z0r h (↑i:Int)).fst) ‹_› (by omega) (by omega) (by omega) ‹_›) r_))
   rcases bb (Z2h h (↑i:Int) (Z0r h (↑i:Int)).fst != 0)with hc2 | hc2<;>have hc2p:=hc2<;>simp only[bs]at hc2p
   ·exact gF [] Tryz.func81 [false,false,false,false,false,false,false,false,false,true] (Q2 (Ft 44 hc2 (Fa (by(simp only[pageF];(repeat' split)<;>first | rfl | omega | (exfalso;omega) | simp_all):5=(pageF h i).fault) (Fa (by(simp only[pageF];(repeat' split)<;>first | rfl | omega | (exfalso;omega) | simp_all):(↑i:Int)=(pageF h i).page) (Fa (by(simp only[pageF];(repeat' split)<;>first | rfl | omega | (exfalso;omega) | simp_all):Z2h h (↑i:Int) (Z0r h (↑i:Int)).fst=(pageF h i).addr) Fz)))))
   ·have Q3 {h_ c_ p_} (r_:Fq h_ c_ p_):=Q2 (Ff 44 hc2 (Fc 50 (@Zez h i ‹_› ‹_› ‹_›) r_))
    rcases bb (Z3U h i (Z3N h i) != 0)with hc3 | hc3<;>have hc3p:=hc3<;>simp only[bs]at hc3p
    ·exact gF [] Tryz.func81 [false,false,false,false,false,false,false,false,false,true] (Q3 (Ft 52 hc3 (Fa (by(simp only[pageF];(repeat' split)<;>first | rfl | omega | (exfalso;omega) | simp_all):4=(pageF h i).fault) (Fa (by(simp only[pageF];(repeat' split)<;>first | rfl | omega | (exfalso;omega) | simp_all):(↑i:Int)=(pageF h i).page) (Fa (by(simp only[pageF];(repeat' split)<;>first | rfl | omega | (exfalso;omega) | simp_all):Z3U h i (Z3N h i)=(pageF h i).addr) Fz)))))
    ·exact gF [] Tryz.func81 [false,false,false,false,false,false,false,false,false,true] (Q3 (Ff 52 hc3 (Fa (by(simp only[pageF];(repeat' split)<;>first | rfl | omega | (exfalso;omega) | simp_all):0=(pageF h i).fault) (Fa (by(simp only[pageF];(repeat' split)<;>first | rfl | omega | (exfalso;omega) | simp_all):0=(pageF h i).page) (Fa (by(simp only[pageF];(repeat' split)<;>first | rfl | omega | (exfalso;omega) | simp_all):0=(pageF h i).addr) Fz)))))
def ZeZ(h:Heap)(all:List Int)(i:Nat):Tg:=⟨tm 89 [(1,.pt 8001 0 0),(2,.pt 8002 0 0),(3,Z02 all),(5,int i)],[(8002,.box 82 [int 0,int 0,u64 0]),(8001,.box 28 h.cells)],60⟩
def Zc6(hd:Header)(fs all:List Int)(k:Nat):Bool:=Z0m hd k&&decide (fs.getD k default≠0)&&!decide (fs.getD k default∈all)
def Zfl(h:Heap)(all fs:List Int)(hd:Header)(i k:Nat):Tg:=⟨tm 89 [(1,.pt 8001 0 0),(2,.pt 8002 0 0),(3,Z02 all),(5,int i),(6,.pt 488006 0 0),(8,Z02 fs),(10,int k)],[(488006,.box 34 [int hd.kind,int hd.length,u32 hd.map]),(8002,.box 82 [int 0,int 0,u64 0]),(8001,.box 28 h.cells)],64⟩
section
variable (h:Heap) (all fs:List Int) (hd:Header) (i k:Nat) (hm:0≤hd.map∧hd.map≤4294967295) (hl:all.length≤1048576) (hf:fs.length≤4096) (hr:0≤all.getD i default∧all.getD i default≤8192) (hi:i<all.length)
include hm hl hf hr hi
theorem ZbH(hk:k<fs.length)(hb:Zc6 hd fs all k=false):CSpec Tryz.prog (rndF Tryz.f82 2) (Zfl h all fs hd i k).st .nrm (Zfl h all fs hd i (k+1)).st:=by
 simp only[Zc6,bs]at hb
 rcases hb with(hb | hb) | hb
 ·exact sF [] [] (Fl 46 wdv fs (Ftb 47 (decide ((↑k:Int)<(↑fs.length:Int))) (Fc 52 (@Z2a hd ((↑k:Int)) ‹_›) (FeG 56 (Z0m hd (↑k:Int)) wdv fs (↑k) k (FeG 64 (Z0m hd (↑k:Int)&&fs.getD k default != 0) wdv fs (↑k) k (FcG 66 (Z0m hd (↑k:Int)&&fs.getD k default != 0) (fun hg=>by(try simp only[bs]at hg);exact @Z0X all (fs.getD k default) (by(try simp only[bs]at hg);assumption)) (Ff 68 (by simp only[bs, *,true_or,or_true,true_and,and_true,not_true_eq_false,not_false_eq_true,Bool.true_eq_false,Bool.false_eq_true]:(Z0m hd (↑k:Int)&&fs.getD k default != 0&&!decide (fs.getD k default∈all))=false) (Fx 49 k Fz))))))))
 ·exact sF [] [] (Fl 46 wdv fs (Ftb 47 (decide ((↑k:Int)<(↑fs.length:Int))) (Fc 52 (@Z2a hd ((↑k:Int)) ‹_›) (FeG 56 (Z0m hd (↑k:Int)) wdv fs (↑k) k (FeG 64 (Z0m hd (↑k:Int)&&fs.getD k default != 0) wdv fs (↑k) k (FcG 66 (Z0m hd (↑k:Int)&&fs.getD k default != 0) (fun hg=>by(try simp only[bs]at hg);exact @Z0X all (fs.getD k default) (by(try simp only[bs]at hg);assumption)) (Ffb 68 (Z0m hd (↑k:Int)&&fs.getD k default != 0&&!decide (fs.getD k default∈all)) (Fx 49 k Fz))))))))
 ·exact sF [] [] (Fl 46 wdv fs (Ftb 47 (decide ((↑k:Int)<(↑fs.length:Int))) (Fc 52 (@Z2a hd ((↑k:Int)) ‹_›) (FeG 56 (Z0m hd (↑k:Int)) wdv fs (↑k) k (FeG 64 (Z0m hd (↑k:Int)&&fs.getD k default != 0) wdv fs (↑k) k (FcG 66 (Z0m hd (↑k:Int)&&fs.getD k default != 0) (fun hg=>by(try simp only[bs]at hg);exact @Z0X all (fs.getD k default) (by(try simp only[bs]at hg);assumption)) (Ff 68 (by simp only[bs, *,true_or,or_true,true_and,and_true,not_true_eq_false,not_false_eq_true,Bool.true_eq_false,Bool.false_eq_true]:(Z0m hd (↑k:Int)&&fs.getD k default != 0&&!decide (fs.getD k default∈all))=false) (Fx 49 k Fz))))))))
theorem Zhj(hk:k<fs.length)(hb:Zc6 hd fs all k=true):CSpec Tryz.prog (rndF Tryz.f82 2) (Zfl h all fs hd i k).st .ret (Tg.st ⟨tm 89 [(2,.pt 8002 0 0)],[(8002,.box 82 [int 6,int (ofA h.conf (all.getD i default+1+k)).1,u64 (all.getD i default+1+k)])],64⟩):=by
 simp only[Zc6,bs]at hb
 obtain⟨⟨hb1,hb2⟩,hb3⟩:=hb
 exact sF [] [] (Fl 46 wdv fs (Ftb 47 (decide ((↑k:Int)<(↑fs.length:Int))) (Fc 52 (@Z2a hd ((↑k:Int)) ‹_›) (FeG 56 (Z0m hd (↑k:Int)) wdv fs (↑k) k (FeG 64 (Z0m hd (↑k:Int)&&fs.getD k default != 0) wdv fs (↑k) k (FcG 66 (Z0m hd (↑k:Int)&&fs.getD k default != 0) (fun hg=>by(try simp only[bs]at hg);exact @Z0X all (fs.getD k default) (by(try simp only[bs]at hg);assumption)) (Ft 68 (by simp only[bs, *,true_or,or_true,true_and,and_true,not_true_eq_false,not_false_eq_true,Bool.true_eq_false,Bool.false_eq_true]:(Z0m hd (↑k:Int)&&fs.getD k default != 0&&!decide (fs.getD k default∈all))=true) (Fek 71 wdv all (↑i) i (Fv 73 (all.getD i default+1) (Fv 75 (↑k) (Fv 76 (all.getD i default+1+(↑k:Int)) (Fc 81 (@Z4d h.conf (all.getD i default+1+(↑k:Int)) (by omega) (by omega)) Fz))))))))))))
omit hm hl hf hr hi in
theorem ZkD:CSpec Tryz.prog (rndF Tryz.f82 2) (Zfl h all fs hd i fs.length).st (.ext 2) (Tg.st ⟨tm 89 [(1,.pt 8001 0 0),(2,.pt 8002 0 0),(3,Z02 all),(5,int i)],[(8002,.box 82 [int 0,int 0,u64 0]),(8001,.box 28 h.cells)],64⟩):=by
 exact sF [] [] (Fl 46 wdv fs (Ffb 47 (decide ((↑fs.length:Int)<(↑fs.length:Int))) Fz))
end
section
variable (h:Heap) (all fs:List Int) (hd:Header) (i:Nat) (hm:0≤hd.map∧hd.map≤4294967295) (hl:all.length≤1048576) (hf:fs.length≤4096) (hr:0≤all.getD i default∧all.getD i default≤8192) (hi:i<all.length)
include hm hl hf hr hi
theorem Zie(hb:(List.range fs.length).find? (Zc6 hd fs all)=none):CSpec Tryz.prog (blkF Tryz.f82 2) (Tg.st ⟨tm 89 [(1,.pt 8001 0 0),(2,.pt 8002 0 0),(3,Z02 all),(5,int i),(6,.pt 488006 0 0),(8,Z02 fs),(10,int 0)],[(488006,.box 34 [int hd.kind,int hd.length,u32 hd.map]),(8002,.box 82 [int 0,int 0,u64 0]),(8001,.box 28 h.cells)],64⟩) .nrm (Tg.st ⟨tm 89 [(1,.pt 8001 0 0),(2,.pt 8002 0 0),(3,Z02 all),(5,int i)],[(8002,.box 82 [int 0,int 0,u64 0]),(8001,.box 28 h.cells)],64⟩):=by
 refine Z0c (S:=fun k=>(Zfl h all fs hd i k).st) fs.length (by kernel_rfl) (fun k hk=>ZbH h all fs hd i k hm hl hf hr hi hk ?_) (ZkD h all fs hd i)
 have:=List.find?_eq_none.1 hb k (List.mem_range.2 hk)
 simpa using this
theorem ZfP(k:Nat)(hb:(List.range fs.length).find? (Zc6 hd fs all)=some k):CSpec Tryz.prog (blkF Tryz.f82 2) (Tg.st ⟨tm 89 [(1,.pt 8001 0 0),(2,.pt 8002 0 0),(3,Z02 all),(5,int i),(6,.pt 488006 0 0),(8,Z02 fs),(10,int 0)],[(488006,.box 34 [int hd.kind,int hd.length,u32 hd.map]),(8002,.box 82 [int 0,int 0,u64 0]),(8001,.box 28 h.cells)],64⟩) .ret (Tg.st ⟨tm 89 [(2,.pt 8002 0 0)],[(8002,.box 82 [int 6,int (ofA h.conf (all.getD i default+1+k)).1,u64 (all.getD i default+1+k)])],64⟩):=by
 obtain⟨h1,h2,h3⟩:=List.find?_range_eq_some.1 hb
 have h2:=List.mem_range.1 h2
 refine Z0Q (S:=fun k=>(Zfl h all fs hd i k).st) k (by kernel_rfl) (fun m hm'=>ZbH h all fs hd i m hm hl hf hr hi (by omega) ?_) (Zhj h all fs hd i k hm hl hf hr hi h2 h1)
 have:=h3 m hm'
 simpa using this
end
theorem Z8r(h:Heap)(a:Int):(Z0W h a).1.length≤4096:=by
 unfold Z0W
 split
 ·rename_i e
  have po:=Z09 (Z3Y e).2.2.1
  have:=Zbc h.words (a+1) (getH h a).1.length
  omega
 ·simp
def Z23(h:Heap)(all:List Int)(i:Nat):Option Nat:=(List.range (Z0W h (all.getD i default)).1.length).find? (Zc6 (getH h (all.getD i default)).1 (Z0W h (all.getD i default)).1 all)
section
variable (h:Heap) (all:List Int) (i:Nat) (hw:WOk h.words) (hl:all.length≤1048576) (hr:0≤all.getD i default∧all.getD i default≤8192) (hi:i<all.length)
include hw hl hr hi
theorem ZbX(hb:Z23 h all i=none):CSpec Tryz.prog (rndF Tryz.f82 0) (ZeZ h all i).st .nrm (ZeZ h all (i+1)).st:=by
 have hm:=ZaP hw (all.getD i default)
 have hf:(Z0W h (all.getD i default)).1.length≤4096:=Z8r h _
 unfold Z23 at hb
 exact sF [] [] (Fl 22 wdv all (Ftb 23 (decide ((↑i:Int)<(↑all.length:Int))) (Fek 30 wdv all (↑i) i (Fc 32 (@Z3z h (all.getD i default) ‹_› (by omega)) (Fek 39 wdv all (↑i) i (Fc 41 (@Z9b h (all.getD i default) ‹_› (by omega)) (Fu (@Zie h all ((Z0W h (all.getD i default)).fst) ((getH h (all.getD i default)).fst) i ‹_› ‹_› ‹_› ‹_› ‹_› ‹_›) (Fx 25 i Fz))))))))
theorem Zge(k:Nat)(hb:Z23 h all i=some k):CSpec Tryz.prog (rndF Tryz.f82 0) (ZeZ h all i).st .ret (Tg.st ⟨tm 89 [(2,.pt 8002 0 0)],[(8002,.box 82 [int 6,int (ofA h.conf (all.getD i default+1+k)).1,u64 (all.getD i default+1+k)])],60⟩):=by
 have hm:=ZaP hw (all.getD i default)
 have hf:(Z0W h (all.getD i default)).1.length≤4096:=Z8r h _
 unfold Z23 at hb
 exact sF [] [] (Fl 22 wdv all (Ftb 23 (decide ((↑i:Int)<(↑all.length:Int))) (Fek 30 wdv all (↑i) i (Fc 32 (@Z3z h (all.getD i default) ‹_› (by omega)) (Fek 39 wdv all (↑i) i (Fc 41 (@Z9b h (all.getD i default) ‹_› (by omega)) (Fu (@ZfP h all ((Z0W h (all.getD i default)).fst) ((getH h (all.getD i default)).fst) i ‹_› ‹_› ‹_› ‹_› ‹_› k ‹_›) Fz)))))))
end
theorem ZkK(h:Heap)(all:List Int):CSpec Tryz.prog (rndF Tryz.f82 0) (ZeZ h all all.length).st (.ext 0) (Tg.st ⟨tm 89 [(2,.pt 8002 0 0)],[(8002,.box 82 [int 0,int 0,u64 0])],60⟩):=by
 exact sF [] [] (Fl 22 wdv all (Ffb 23 (decide ((↑all.length:Int)<(↑all.length:Int))) Fz))
def Z0V(h:Heap)(all:List Int):Finding :=
 match (List.range all.length).find? (fun i=>(Z23 h all i).isSome)with
 | none=>⟨0,0,0⟩
 | some i=>⟨6,(ofA h.conf (all.getD i default+1+((Z23 h all i).getD 0:Nat))).1,all.getD i default+1+((Z23 h all i).getD 0:Nat)⟩
section
variable (h:Heap) (all:List Int) (hw:WOk h.words) (hl:all.length≤1048576) (hr:∀ x∈all,0≤x∧x≤8192)
include hw hl hr
theorem Zjl(hb:(List.range all.length).find? (fun i=>(Z23 h all i).isSome)=none):CSpec Tryz.prog (blkF Tryz.f82 0) (Tg.st ⟨tm 89 [(1,.pt 8001 0 0),(2,.pt 8002 0 0),(3,Z02 all),(5,int 0)],[(8002,.box 82 [int 0,int 0,u64 0]),(8001,.box 28 h.cells)],60⟩) .nrm (Tg.st ⟨tm 89 [(2,.pt 8002 0 0)],[(8002,.box 82 [int 0,int 0,u64 0])],60⟩):=by
 refine Z0c (S:=fun k=>(ZeZ h all k).st) all.length (by kernel_rfl) (fun k hk=>ZbX h all k hw hl (hr _ (getD_mem_iff.2 ⟨k,hk,rfl⟩)) hk ?_) (ZkK h all)
 have:=List.find?_eq_none.1 hb k (List.mem_range.2 hk)
 simpa using this
theorem ZgV(i k:Nat)(hb:(List.range all.length).find? (fun i=>(Z23 h all i).isSome)=some i)(hk':Z23 h all i=some k):CSpec Tryz.prog (blkF Tryz.f82 0) (Tg.st ⟨tm 89 [(1,.pt 8001 0 0),(2,.pt 8002 0 0),(3,Z02 all),(5,int 0)],[(8002,.box 82 [int 0,int 0,u64 0]),(8001,.box 28 h.cells)],60⟩) .ret (Tg.st ⟨tm 89 [(2,.pt 8002 0 0)],[(8002,.box 82 [int 6,int (ofA h.conf (all.getD i default+1+k)).1,u64 (all.getD i default+1+k)])],60⟩):=by
 obtain⟨h1,h2,h3⟩:=List.find?_range_eq_some.1 hb
 have h2:=List.mem_range.1 h2
 refine Z0Q (S:=fun k=>(ZeZ h all k).st) i (by kernel_rfl) (fun m hm'=>ZbX h all m hw hl (hr _ (getD_mem_iff.2 ⟨m,by omega,rfl⟩)) (by omega) ?_) (Zge h all i hw hl (hr _ (getD_mem_iff.2 ⟨i,h2,rfl⟩)) h2 k hk')
 have:=h3 m hm'
 simpa using this
end
theorem Z4n(h:Heap)(hw:WOk h.words):GSpec Tryz.prog 82 [h.av] true (Z0V h (Z08 h).1).av []:=by
 have hl:=Z3v h
 have hr:=Z5j h
 cases hb:(List.range (Z08 h).1.length).find? (fun i=>(Z23 h (Z08 h).1 i).isSome)with
 | none =>
  have e:Z0V h (Z08 h).1=⟨0,0,0⟩:=by simp only[Z0V,hb]
  rw[e]
  exact gF [] Tryz.func82 [] (Fc 17 (@Z3j h ‹_›) (Fu (@Zjl h ((Z08 h).fst) ‹_› (by omega) ‹_› ‹_›) Fz))
 | some i =>
  have h1:=(List.find?_range_eq_some.1 hb).1
  obtain⟨k,hk⟩:=Option.isSome_iff_exists.1 h1
  have e:Z0V h (Z08 h).1=⟨6,(ofA h.conf ((Z08 h).1.getD i default+1+(k:Nat))).1,(Z08 h).1.getD i default+1+(k:Nat)⟩:=by simp only[Z0V,hb,hk,Option.getD_some]
  rw[e]
  exact gF [] Tryz.func82 [] (Fc 17 (@Z3j h ‹_›) (Fu (@ZgV h ((Z08 h).fst) ‹_› (by omega) ‹_› i k ‹_› ‹_›) Fz))
theorem Zj5(h:Heap)(hw:WOk h.words)(hp:Z03 h=false):GSpec Tryz.prog 44 [h.av] true (Finding.mk 1 0 0).av []:=by
 exact gF [] Tryz.func44 [] (Fc 9 (@Z0l h) (Ftb 10 (!Z03 h) Fz))
def chkL(h:Heap)(i:Nat):Tg:=⟨tm 65 [(1,.pt 8001 0 0),(2,.pt 8002 0 0),(3,int i)],[(8002,.box 82 [int 0,int 0,u64 0]),(8001,.box 28 h.cells)],60⟩
section
variable (h:Heap) (i:Nat) (hw:WOk h.words) (hp:Z03 h=true)
include hw hp
theorem ZdN(hi:i<h.pages.length)(hb:(pageF h i).fault=0):CSpec Tryz.prog (rndF Tryz.f44 0) (chkL h i).st .nrm (chkL h (i+1)).st:=by
 have po:=Z09 hp
 exact sF [] [] (Fl 15 Page.dv h.pages (Ftb 16 (decide ((↑i:Int)<(↑h.pages.length:Int))) (Fc 21 (@ZdI h i ‹_› ‹_› ‹_›) (Ffb 24 ((pageF h i).fault != 0) (Fx 18 i Fz)))))
theorem Zi4(hi:i<h.pages.length)(hb:(pageF h i).fault≠0):CSpec Tryz.prog (rndF Tryz.f44 0) (chkL h i).st .ret (Tg.st ⟨tm 65 [(2,.pt 8002 0 0)],[(8002,.box 82 [int (pageF h i).fault,int (pageF h i).page,u64 (pageF h i).addr])],60⟩):=by
 have po:=Z09 hp
 exact sF [] [] (Fl 15 Page.dv h.pages (Ftb 16 (decide ((↑i:Int)<(↑h.pages.length:Int))) (Fc 21 (@ZdI h i ‹_› ‹_› ‹_›) (Ftb 24 ((pageF h i).fault != 0) Fz))))
end
theorem ZlB(h:Heap)(hp:Z03 h=true):CSpec Tryz.prog (rndF Tryz.f44 0) (chkL h h.pages.length).st (.ext 0) (Tg.st ⟨tm 65 [(1,.pt 8001 0 0),(2,.pt 8002 0 0)],[(8002,.box 82 [int 0,int 0,u64 0]),(8001,.box 28 h.cells)],60⟩):=by
 have po:=Z09 hp
 exact sF [] [] (Fl 15 Page.dv h.pages (Ffb 16 (decide ((↑h.pages.length:Int)<(↑h.pages.length:Int))) Fz))
def Z5t(h:Heap):Option Nat:=(List.range h.pages.length).find? (fun i=>decide ((pageF h i).fault≠0))
section
variable (h:Heap) (hw:WOk h.words) (hp:Z03 h=true)
include hw hp
theorem ZcA(hb:Z5t h=none):CSpec Tryz.prog (blkF Tryz.f44 0) (Tg.st ⟨tm 65 [(1,.pt 8001 0 0),(2,.pt 8002 0 0),(3,int 0)],[(8002,.box 82 [int 0,int 0,u64 0]),(8001,.box 28 h.cells)],60⟩) .nrm (Tg.st ⟨tm 65 [(1,.pt 8001 0 0),(2,.pt 8002 0 0)],[(8002,.box 82 [int 0,int 0,u64 0]),(8001,.box 28 h.cells)],60⟩):=by
 refine Z0c (S:=fun k=>(chkL h k).st) h.pages.length (by kernel_rfl) (fun k hk=>ZdN h k hw hp hk ?_) (ZlB h hp)
 have:=List.find?_eq_none.1 hb k (List.mem_range.2 hk)
 simpa using this
theorem Zj0(i:Nat)(hb:Z5t h=some i):CSpec Tryz.prog (blkF Tryz.f44 0) (Tg.st ⟨tm 65 [(1,.pt 8001 0 0),(2,.pt 8002 0 0),(3,int 0)],[(8002,.box 82 [int 0,int 0,u64 0]),(8001,.box 28 h.cells)],60⟩) .ret (Tg.st ⟨tm 65 [(2,.pt 8002 0 0)],[(8002,.box 82 [int (pageF h i).fault,int (pageF h i).page,u64 (pageF h i).addr])],60⟩):=by
 obtain⟨h1,h2,h3⟩:=List.find?_range_eq_some.1 hb
 have h2:=List.mem_range.1 h2
 refine Z0Q (S:=fun k=>(chkL h k).st) i (by kernel_rfl) (fun m hm'=>ZdN h m hw hp (by omega) ?_) (Zi4 h i hw hp h2 (by simpa using h1))
 have:=h3 m hm'
 simpa using this
end
theorem Zhb(h:Heap)(hw:WOk h.words)(hp:Z03 h=true)(i:Nat)(hb:Z5t h=some i):GSpec Tryz.prog 44 [h.av] true (pageF h i).av []:=by
 exact gF [] Tryz.func44 [] (Fc 9 (@Z0l h) (Ffb 10 (!Z03 h) (Fu (@Zj0 h ‹_› ‹_› i ‹_›) Fz)))
theorem Zj6(h:Heap)(hw:WOk h.words)(hp:Z03 h=true)(hb:Z5t h=none)(hq:(Z0V h (Z08 h).1).fault≠0):GSpec Tryz.prog 44 [h.av] true (Z0V h (Z08 h).1).av []:=by
 exact gF [] Tryz.func44 [] (Fc 9 (@Z0l h) (Ffb 10 (!Z03 h) (Fu (@ZcA h ‹_› ‹_› ‹_›) (Fc 27 (@Z4n h ‹_›) (Ftb 30 ((Z0V h (Z08 h).fst).fault != 0) Fz)))))
end Go.Proofs.YtjflpmnenhdeeaaGreat
