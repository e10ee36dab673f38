/-
 The statement AuditDirt: part 13.
 Conditions: none.
-/
import Derived.Test.YtjflpmnenhdeeaaGreatB12
set_option maxRecDepth 100000
set_option maxHeartbeats 2000000
set_option linter.all false
namespace Go.Proofs.YtjflpmnenhdeeaaGreat
open Go.Sx
def pinB(w:WorldM)(i:Nat)(n:Int):WorldM:=⟨⟨w.heap.conf,w.heap.words,w.heap.pages.set i ⟨(w.heap.pages.getD i default).kind,(w.heap.pages.getD i default).space,(w.heap.pages.getD i default).used,(w.heap.pages.getD i default).pins+n⟩,w.heap.space,w.heap.bump⟩,w.strong,w.weak⟩
def pinI(w:WorldM)(t:Tape):Nat:=(ofA w.heap.conf (w.pick t)).1.toNat
def WorldM.pin(w:WorldM)(t:Tape):WorldM :=
  if(ofA w.heap.conf (w.pick t)).2.2=0 then
    (if 0<(w.heap.pages.getD (pinI w t) default).pins∧(w.pickT t).next 2=0 then pinB w (pinI w t) (-1)
     else if 0<(w.heap.pages.getD (pinI w t) default).pins∨(w.heap.pages.getD (pinI w t) default).kind=2∨(crowd w.heap.pages:Int)<w.heap.conf.pg/4 then pinB w (pinI w t) 1 else w)else w
def WorldM.pinT(w:WorldM)(t:Tape):Tape:=if(ofA w.heap.conf (w.pick t)).2.2=0∧0<(w.heap.pages.getD (pinI w t) default).pins then(w.pickT t).step 2 else w.pickT t
theorem Zjo(w:WorldM)(t:Tape)(hw:WMok w)(ht:TOk t)(ha:t.at'≤1000000)(hv:Z05 w.heap.conf=true)(hp:(w.heap.pages.length:Int)=w.heap.conf.pg)(hpn:∀ j,j<w.heap.pages.length→-1048576≤(w.heap.pages.getD j default).pins∧(w.heap.pages.getD j default).pins≤4294967296):LentSpec Tryz.prog 65 [w.av,.pt 0 0 0] [t.b] (w.pin t).av [(w.pinT t).b]:=by
 have hb:=validB_iff.1 hv
 have s1:=ZaD w t
 have k1:=Z4V ht s1.2.2 (by omega) (by omega)
 have p1:=Z2V hw t
 have q1:=hpn (pinI w t)
 have hcr:=Z2E w.heap.pages w.heap.pages.length
 unfold pinI at q1
 have o1:=fun e=>Z3F (a:=w.pick t) hv e
 by_cases e:(ofA w.heap.conf (w.pick t)).2.2=0
 ·have o2:=o1 e
  by_cases c1:0<(w.heap.pages.getD (ofA w.heap.conf (w.pick t)).1.toNat default).pins
  ·have eT:w.pinT t=(w.pickT t).step 2:=by rw[WorldM.pinT,if_pos ⟨e,c1⟩]
   by_cases c2:(w.pickT t).next 2=0
   ·have eP:w.pin t=⟨⟨w.heap.conf,w.heap.words,w.heap.pages.set (ofA w.heap.conf (w.pick t)).1.toNat ⟨(w.heap.pages.getD (ofA w.heap.conf (w.pick t)).1.toNat default).kind,(w.heap.pages.getD (ofA w.heap.conf (w.pick t)).1.toNat default).space,(w.heap.pages.getD (ofA w.heap.conf (w.pick t)).1.toNat default).used,(w.heap.pages.getD (ofA w.heap.conf (w.pick t)).1.toNat default).pins-1⟩,w.heap.space,w.heap.bump⟩,w.strong,w.weak⟩:=by rw[WorldM.pin,if_pos e,if_pos ⟨c1,c2⟩];rfl
    rw[eP,eT]
    exact lF Tryz.func65 [] (Fh 42 [.br true] (Fh 37 [.br true] (Fh 51 [.el (w.heap.pages.getD (ofA w.heap.conf (w.pick t)).fst.toNat default).dv] (Fp 12 (@Z1Y w t ‹_› ‹_› (by omega)) (Fc 18 (@Z4r w.heap.conf (w.pick t) (by omega) (by omega)) (Ffb 23 ((ofA w.heap.conf (w.pick t)).snd.snd != 0) (Fs 25 (List.map Page.dv []) (Fa (by(simp[*];omega):(List.map Page.dv []).length+(List.map Page.dv w.heap.pages).length≤2^30) (Fs 29 (List.map Page.dv w.heap.pages) (Fm 41 Page.dv w.heap.pages ((ofA w.heap.conf (w.pick t)).fst) ((ofA w.heap.conf (w.pick t)).fst.toNat) (Fb (decide (0<(w.heap.pages.getD (ofA w.heap.conf (w.pick t)).fst.toNat default).pins)=true) (Fp 45 (@Z0z (w.pickT t) (2) ‹_› (by omega) (by omega)) (Fb (((w.pickT t).next (2:Int)==0)=true) (Fa (by exact Z1K (by omega):(List.map Page.dv w.heap.pages)[(ofA w.heap.conf (w.pick t)).fst.toNat]? = some (w.heap.pages.getD (ofA w.heap.conf (w.pick t)).fst.toNat default).dv) (Fi 52 ((w.heap.pages.getD (ofA w.heap.conf (w.pick t)).fst.toNat default).pins-1) (Fa (by exact Z1K (by omega):(List.map Page.dv w.heap.pages)[(ofA w.heap.conf (w.pick t)).fst.toNat]? = some (w.heap.pages.getD (ofA w.heap.conf (w.pick t)).fst.toNat default).dv) (FS 10054 Page.dv w.heap.pages ((ofA w.heap.conf (w.pick t)).fst.toNat) (Page.mk (w.heap.pages.getD (ofA w.heap.conf (w.pick t)).fst.toNat default).kind (w.heap.pages.getD (ofA w.heap.conf (w.pick t)).fst.toNat default).space (w.heap.pages.getD (ofA w.heap.conf (w.pick t)).fst.toNat default).used ((w.heap.pages.getD (ofA w.heap.conf (w.pick t)).fst.toNat default).pins-1)) ((w.heap.pages.getD (ofA w.heap.conf (w.pick t)).fst.toNat default).dv) Fz)))))))))))))))))
   ·have eP:w.pin t=⟨⟨w.heap.conf,w.heap.words,w.heap.pages.set (ofA w.heap.conf (w.pick t)).1.toNat ⟨(w.heap.pages.getD (ofA w.heap.conf (w.pick t)).1.toNat default).kind,(w.heap.pages.getD (ofA w.heap.conf (w.pick t)).1.toNat default).space,(w.heap.pages.getD (ofA w.heap.conf (w.pick t)).1.toNat default).used,(w.heap.pages.getD (ofA w.heap.conf (w.pick t)).1.toNat default).pins+1⟩,w.heap.space,w.heap.bump⟩,w.strong,w.weak⟩:=by rw[WorldM.pin,if_pos e,if_neg (fun q=>c2 q.2),if_pos (.inl c1)];rfl
    rw[eP,eT]
    exact lF Tryz.func65 [] (Fh 42 [.br true] (Fh 37 [.br false] (Fh 59 [.el (w.heap.pages.getD (ofA w.heap.conf (w.pick t)).fst.toNat default).dv] (Fh 65 [.el (w.heap.pages.getD (ofA w.heap.conf (w.pick t)).fst.toNat default).dv] (Fh 76 [.int (w.heap.conf.pg/4)] (Fh 55 [.br true] (Fh 82 [.el (w.heap.pages.getD (ofA w.heap.conf (w.pick t)).fst.toNat default).dv] (Fp 12 (@Z1Y w t ‹_› ‹_› (by omega)) (Fc 18 (@Z4r w.heap.conf (w.pick t) (by omega) (by omega)) (Ffb 23 ((ofA w.heap.conf (w.pick t)).snd.snd != 0) (Fs 25 (List.map Page.dv []) (Fa (by(simp[*];omega):(List.map Page.dv []).length+(List.map Page.dv w.heap.pages).length≤2^30) (Fs 29 (List.map Page.dv w.heap.pages) (Fm 41 Page.dv w.heap.pages ((ofA w.heap.conf (w.pick t)).fst) ((ofA w.heap.conf (w.pick t)).fst.toNat) (Fb (decide (0<(w.heap.pages.getD (ofA w.heap.conf (w.pick t)).fst.toNat default).pins)=true) (Fp 45 (@Z0z (w.pickT t) (2) ‹_› (by omega) (by omega)) (Fb (((w.pickT t).next (2:Int)==0)=false) (Fa (by exact Z1K (by omega):(List.map Page.dv w.heap.pages)[(ofA w.heap.conf (w.pick t)).fst.toNat]? = some (w.heap.pages.getD (ofA w.heap.conf (w.pick t)).fst.toNat default).dv) (Fa (by intro hg;(try simp only[bs]at hg);exact Z1K (by omega):(!decide (0<(w.heap.pages.getD (ofA w.heap.conf (w.pick t)).fst.toNat default).pins))=true→(List.map Page.dv w.heap.pages)[(ofA w.heap.conf (w.pick t)).fst.toNat]? = some (w.heap.pages.getD (ofA w.heap.conf (w.pick t)).fst.toNat default).dv) (FcG 71 (!(decide (0<(w.heap.pages.getD (ofA w.heap.conf (w.pick t)).fst.toNat default).pins)||(w.heap.pages.getD (ofA w.heap.conf (w.pick t)).fst.toNat default).kind==2)) (fun hg=>by(try simp only[bs]at hg);exact @Z8p w.heap (by(try simp only[bs]at hg);omega)) (Fa (by intro hg;(try simp only[bs]at hg);rw[wrapI' (by omega) (by omega)];omega:(!(decide (0<(w.heap.pages.getD (ofA w.heap.conf (w.pick t)).fst.toNat default).pins)||(w.heap.pages.getD (ofA w.heap.conf (w.pick t)).fst.toNat default).kind==2))=true→IntKind.i64.wrap (w.heap.conf.pg.tdiv 4)=w.heap.conf.pg/4) (Fa (by intro hg;(try simp only[bs]at hg);omega:(!(decide (0<(w.heap.pages.getD (ofA w.heap.conf (w.pick t)).fst.toNat default).pins)||(w.heap.pages.getD (ofA w.heap.conf (w.pick t)).fst.toNat default).kind==2))=true→(4:Int)=0→False) (Fb ((decide (0<(w.heap.pages.getD (ofA w.heap.conf (w.pick t)).fst.toNat default).pins)||(w.heap.pages.getD (ofA w.heap.conf (w.pick t)).fst.toNat default).kind==2||decide ((↑(crowd w.heap.pages):Int)<w.heap.conf.pg/4))=true) (Fa (by exact Z1K (by omega):(List.map Page.dv w.heap.pages)[(ofA w.heap.conf (w.pick t)).fst.toNat]? = some (w.heap.pages.getD (ofA w.heap.conf (w.pick t)).fst.toNat default).dv) (Fi 83 ((w.heap.pages.getD (ofA w.heap.conf (w.pick t)).fst.toNat default).pins+1) (Fa (by exact Z1K (by omega):(List.map Page.dv w.heap.pages)[(ofA w.heap.conf (w.pick t)).fst.toNat]? = some (w.heap.pages.getD (ofA w.heap.conf (w.pick t)).fst.toNat default).dv) (FS 10085 Page.dv w.heap.pages ((ofA w.heap.conf (w.pick t)).fst.toNat) (Page.mk (w.heap.pages.getD (ofA w.heap.conf (w.pick t)).fst.toNat default).kind (w.heap.pages.getD (ofA w.heap.conf (w.pick t)).fst.toNat default).space (w.heap.pages.getD (ofA w.heap.conf (w.pick t)).fst.toNat default).used ((w.heap.pages.getD (ofA w.heap.conf (w.pick t)).fst.toNat default).pins+1)) ((w.heap.pages.getD (ofA w.heap.conf (w.pick t)).fst.toNat default).dv) Fz)))))))))))))))))))))))))))
  ·have eT:w.pinT t=w.pickT t:=by rw[WorldM.pinT,if_neg (fun q=>c1 q.2)]
   by_cases c3:(w.heap.pages.getD (ofA w.heap.conf (w.pick t)).1.toNat default).kind=2∨(crowd w.heap.pages:Int)<w.heap.conf.pg/4
   ·have eP:w.pin t=⟨⟨w.heap.conf,w.heap.words,w.heap.pages.set (ofA w.heap.conf (w.pick t)).1.toNat ⟨(w.heap.pages.getD (ofA w.heap.conf (w.pick t)).1.toNat default).kind,(w.heap.pages.getD (ofA w.heap.conf (w.pick t)).1.toNat default).space,(w.heap.pages.getD (ofA w.heap.conf (w.pick t)).1.toNat default).used,(w.heap.pages.getD (ofA w.heap.conf (w.pick t)).1.toNat default).pins+1⟩,w.heap.space,w.heap.bump⟩,w.strong,w.weak⟩:=by rw[WorldM.pin,if_pos e,if_neg (fun q=>c1 q.1),if_pos (.inr c3)];rfl
    rw[eP,eT]
    exact lF Tryz.func65 [] (Fh 42 [.br false] (Fh 45 [.lent (int ((w.pickT t).next 2)) [((w.pickT t).step 2).b]] (Fh 59 [.el (w.heap.pages.getD (ofA w.heap.conf (w.pick t)).fst.toNat default).dv] (Fh 65 [.el (w.heap.pages.getD (ofA w.heap.conf (w.pick t)).fst.toNat default).dv] (Fh 76 [.int (w.heap.conf.pg/4)] (Fh 55 [.br true] (Fh 82 [.el (w.heap.pages.getD (ofA w.heap.conf (w.pick t)).fst.toNat default).dv] (Fp 12 (@Z1Y w t ‹_› ‹_› (by omega)) (Fc 18 (@Z4r w.heap.conf (w.pick t) (by omega) (by omega)) (Ffb 23 ((ofA w.heap.conf (w.pick t)).snd.snd != 0) (Fs 25 (List.map Page.dv []) (Fa (by(simp[*];omega):(List.map Page.dv []).length+(List.map Page.dv w.heap.pages).length≤2^30) (Fs 29 (List.map Page.dv w.heap.pages) (Fm 41 Page.dv w.heap.pages ((ofA w.heap.conf (w.pick t)).fst) ((ofA w.heap.conf (w.pick t)).fst.toNat) (Fb (decide (0<(w.heap.pages.getD (ofA w.heap.conf (w.pick t)).fst.toNat default).pins)=false) (Fa (by exact Z1K (by omega):(List.map Page.dv w.heap.pages)[(ofA w.heap.conf (w.pick t)).fst.toNat]? = some (w.heap.pages.getD (ofA w.heap.conf (w.pick t)).fst.toNat default).dv) (Fa (by intro hg;(try simp only[bs]at hg);exact Z1K (by omega):(!decide (0<(w.heap.pages.getD (ofA w.heap.conf (w.pick t)).fst.toNat default).pins))=true→(List.map Page.dv w.heap.pages)[(ofA w.heap.conf (w.pick t)).fst.toNat]? = some (w.heap.pages.getD (ofA w.heap.conf (w.pick t)).fst.toNat default).dv) (FcG 71 (!(decide (0<(w.heap.pages.getD (ofA w.heap.conf (w.pick t)).fst.toNat default).pins)||(w.heap.pages.getD (ofA w.heap.conf (w.pick t)).fst.toNat default).kind==2)) (fun hg=>by(try simp only[bs]at hg);exact @Z8p w.heap (by(try simp only[bs]at hg);omega)) (Fa (by intro hg;(try simp only[bs]at hg);rw[Int.tdiv_eq_ediv_of_nonneg (by omega),wrapI' (by omega) (by omega)]:(!(decide (0<(w.heap.pages.getD (ofA w.heap.conf (w.pick t)).fst.toNat default).pins)||(w.heap.pages.getD (ofA w.heap.conf (w.pick t)).fst.toNat default).kind==2))=true→IntKind.i64.wrap (w.heap.conf.pg.tdiv 4)=w.heap.conf.pg/4) (Fa (by intro hg;(try simp only[bs]at hg);omega:(!(decide (0<(w.heap.pages.getD (ofA w.heap.conf (w.pick t)).fst.toNat default).pins)||(w.heap.pages.getD (ofA w.heap.conf (w.pick t)).fst.toNat default).kind==2))=true→(4:Int)=0→False) (Fb ((decide (0<(w.heap.pages.getD (ofA w.heap.conf (w.pick t)).fst.toNat default).pins)||(w.heap.pages.getD (ofA w.heap.conf (w.pick t)).fst.toNat default).kind==2||decide ((↑(crowd w.heap.pages):Int)<w.heap.conf.pg/4))=true) (Fa (by exact Z1K (by omega):(List.map Page.dv w.heap.pages)[(ofA w.heap.conf (w.pick t)).fst.toNat]? = some (w.heap.pages.getD (ofA w.heap.conf (w.pick t)).fst.toNat default).dv) (Fi 83 ((w.heap.pages.getD (ofA w.heap.conf (w.pick t)).fst.toNat default).pins+1) (Fa (by exact Z1K (by omega):(List.map Page.dv w.heap.pages)[(ofA w.heap.conf (w.pick t)).fst.toNat]? = some (w.heap.pages.getD (ofA w.heap.conf (w.pick t)).fst.toNat default).dv) (FS 10085 Page.dv w.heap.pages ((ofA w.heap.conf (w.pick t)).fst.toNat) (Page.mk (w.heap.pages.getD (ofA w.heap.conf (w.pick t)).fst.toNat default).kind (w.heap.pages.getD (ofA w.heap.conf (w.pick t)).fst.toNat default).space (w.heap.pages.getD (ofA w.heap.conf (w.pick t)).fst.toNat default).used ((w.heap.pages.getD (ofA w.heap.conf (w.pick t)).fst.toNat default).pins+1)) ((w.heap.pages.getD (ofA w.heap.conf (w.pick t)).fst.toNat default).dv) Fz)))))))))))))))))))))))))
   ·have eP:w.pin t=w:=by rw[WorldM.pin,if_pos e,if_neg (fun q=>c1 q.1),if_neg (fun q=>q.elim c1 c3)]
    rw[eP,eT]
    exact lF Tryz.func65 [] (Fh 42 [.br false] (Fh 45 [.lent (int ((w.pickT t).next 2)) [((w.pickT t).step 2).b]] (Fh 59 [.el (w.heap.pages.getD (ofA w.heap.conf (w.pick t)).fst.toNat default).dv] (Fh 65 [.el (w.heap.pages.getD (ofA w.heap.conf (w.pick t)).fst.toNat default).dv] (Fh 76 [.int (w.heap.conf.pg/4)] (Fh 55 [.br false] (Fp 12 (@Z1Y w t ‹_› ‹_› (by omega)) (Fc 18 (@Z4r w.heap.conf (w.pick t) (by omega) (by omega)) (Ffb 23 ((ofA w.heap.conf (w.pick t)).snd.snd != 0) (Fs 25 (List.map Page.dv []) (Fa (by(simp[*];omega):(List.map Page.dv []).length+(List.map Page.dv w.heap.pages).length≤2^30) (Fs 29 (List.map Page.dv w.heap.pages) (Fm 41 Page.dv w.heap.pages ((ofA w.heap.conf (w.pick t)).fst) ((ofA w.heap.conf (w.pick t)).fst.toNat) (Fb (decide (0<(w.heap.pages.getD (ofA w.heap.conf (w.pick t)).fst.toNat default).pins)=false) (Fa (by exact Z1K (by omega):(List.map Page.dv w.heap.pages)[(ofA w.heap.conf (w.pick t)).fst.toNat]? = some (w.heap.pages.getD (ofA w.heap.conf (w.pick t)).fst.toNat default).dv) (Fa (by intro hg;(try simp only[bs]at hg);exact Z1K (by omega):(!decide (0<(w.heap.pages.getD (ofA w.heap.conf (w.pick t)).fst.toNat default).pins))=true→(List.map Page.dv w.heap.pages)[(ofA w.heap.conf (w.pick t)).fst.toNat]? = some (w.heap.pages.getD (ofA w.heap.conf (w.pick t)).fst.toNat default).dv) (FcG 71 (!(decide (0<(w.heap.pages.getD (ofA w.heap.conf (w.pick t)).fst.toNat default).pins)||(w.heap.pages.getD (ofA w.heap.conf (w.pick t)).fst.toNat default).kind==2)) (fun hg=>by(try simp only[bs]at hg);exact @Z8p w.heap (by(try simp only[bs]at hg);omega)) (Fa (by intro hg;(try simp only[bs]at hg);rw[Int.tdiv_eq_ediv_of_nonneg (by omega),wrapI' (by omega) (by omega)]:(!(decide (0<(w.heap.pages.getD (ofA w.heap.conf (w.pick t)).fst.toNat default).pins)||(w.heap.pages.getD (ofA w.heap.conf (w.pick t)).fst.toNat default).kind==2))=true→IntKind.i64.wrap (w.heap.conf.pg.tdiv 4)=w.heap.conf.pg/4) (Fa (by intro hg;(try simp only[bs]at hg);omega:(!(decide (0<(w.heap.pages.getD (ofA w.heap.conf (w.pick t)).fst.toNat default).pins)||(w.heap.pages.getD (ofA w.heap.conf (w.pick t)).fst.toNat default).kind==2))=true→(4:Int)=0→False) (Fb ((decide (0<(w.heap.pages.getD (ofA w.heap.conf (w.pick t)).fst.toNat default).pins)||(w.heap.pages.getD (ofA w.heap.conf (w.pick t)).fst.toNat default).kind==2||decide ((↑(crowd w.heap.pages):Int)<w.heap.conf.pg/4))=false) Fz))))))))))))))))))))
 ·have eP:w.pin t=w:=by rw[WorldM.pin,if_neg e]
  have eT:w.pinT t=w.pickT t:=by rw[WorldM.pinT,if_neg (fun q=>e q.1)]
  rw[eP,eT]
  exact lF Tryz.func65 [] (Fp 12 (@Z1Y w t ‹_› ‹_› (by omega)) (Fc 18 (@Z4r w.heap.conf (w.pick t) (by omega) (by omega)) (Ftb 23 ((ofA w.heap.conf (w.pick t)).snd.snd != 0) Fz)))
theorem Z79(h:Heap)(s k:List Int)(hw:WOk h.words)(hs:s.length≤1048575)(hk:k.length≤1048575)(hs2:ULe s)(hk2:ULe k):GSpec Tryz.prog 106 [h.av,Z01 s,Z01 k] false (.tu [(Z0g h s k).1.av,Z01 (Z0g h s k).2.1,Z01 (Z0g h s k).2.2.1,.ag (Z0g h s k).2.2.2.1.cells,int (Z0g h s k).2.2.2.2]) []:=by
 unfold Z0g
 by_cases hp:Z02 h=true
 ·rw[if_pos hp]
  by_cases hr:Z0k h s=true∧Z0k h k=true
  ·rw[if_pos hr]
   by_cases e:(rootsF (beginW h) s).2.2=0
   ·rw[if_pos e]
    by_cases e2:(allF (rootsF (beginW h) s).1).2=0
    ·rw[if_pos e2]
     exact Zjk h s k hw hs hk hs2 hk2 hp hr.1 hr.2 e e2
    ·rw[if_neg e2]
     exact Zkn h s k hw hs hk hs2 hk2 hp hr.1 hr.2 e e2
   ·rw[if_neg e]
    exact ZkB h s k hw hs hk hs2 hk2 hp hr.1 hr.2 e
  ·rw[if_neg hr]
   refine Zj3 h s k hw hs hk hs2 hk2 hp ?_
   by_cases q:Z0k h s=true
   ·refine Or.inr ?_
    have:¬ Z0k h k=true:=fun q2=>hr ⟨q,q2⟩
    simpa using this
   ·exact Or.inl (by simpa using q)
 ·rw[if_neg hp]
  exact Zkw h s k hw hs hk hs2 hk2 (by simpa using hp)
def WorldM.collect(w:WorldM):WorldM:=if(Z0g w.heap w.strong w.weak).2.2.2.2=0 then⟨(Z0g w.heap w.strong w.weak).1,(Z0g w.heap w.strong w.weak).2.1,(Z0g w.heap w.strong w.weak).2.2.1⟩else w
theorem Zcf(w:WorldM)(hw:WOk w.heap.words)(hs:w.strong.length≤1048575)(hk:w.weak.length≤1048575)(hs2:ULe w.strong)(hk2:ULe w.weak):GSpec Tryz.prog 67 [w.av] false w.collect.av []:=by
 by_cases e:(Z0g w.heap w.strong w.weak).2.2.2.2=0
 ·have e7:w.collect=⟨(Z0g w.heap w.strong w.weak).1,(Z0g w.heap w.strong w.weak).2.1,(Z0g w.heap w.strong w.weak).2.2.1⟩:=by rw[WorldM.collect,if_pos e]
  rw[e7]
  exact gF [] Tryz.func67 [] (Fc 15 (@Z79 w.heap w.strong w.weak ‹_› ‹_› ‹_› ‹_› ‹_›) (Ftb 22 ((Z0g w.heap w.strong w.weak).snd.snd.snd.snd==0) Fz))
 ·have e7:w.collect=w:=by rw[WorldM.collect,if_neg e]
  rw[e7]
  exact gF [] Tryz.func67 [] (Fc 15 (@Z79 w.heap w.strong w.weak ‹_› ‹_› ‹_› ‹_› ‹_›) (Ffb 22 ((Z0g w.heap w.strong w.weak).snd.snd.snd.snd==0) Fz))
section
variable (P:Work→Prop) (hf:∀ w r,WkOk w→Inv w→P w→(w.fwd r).2.2=0→P (w.fwd r).1)
 (hin:∀ w q j,WkOk w→Inv w→P w→q∈w.queue→0≤j→j<hlA w.heap.words q→(w.fwd (loadA w.heap.words (q+1+j)).1).2.2=0→P (w.in1 (q+1+j))) (hsd:∀ w n,P w→P (Zd0 w n))
include hin in
theorem ZhP{w:Work}(hw:WkOk w)(h:Inv w)(hp:P w){q:Int}(hq:q∈w.queue){l:List Int}(hl:∀ x∈l,0≤x∧x<hlA w.heap.words q):∀ k,k≤l.length→(∀ j,j<k→innE w q l j=0)→P (innN w q l k)
 | 0,_,_=>hp
 | k+1,hk,he=>by
  have ih:=ZhP hw h hp hq hl k (by omega) (fun j hj=>he j (by omega))
  have ok:=(Z4d hw q l k (fun j hj=>he j (by omega))).1
  have iv:=Z7u hw h hq hl k (by omega) (fun j hj=>he j (by omega))
  have hx:=hl _ (getD_mem_iff.2 ⟨k,by omega,rfl⟩)
  exact hin _ q (l.getD k default) ok iv.1 ih (iv.2.q q hq) hx.1 (by rw[iv.2.l q hq];exact hx.2) (he k (by omega))
include hin hsd in
theorem Zhp{w:Work}(hw:WkOk w)(h:Inv w)(hp:P w)(e:(Z0K w).2.2=0):P (Z0K w).1:=by
 by_cases hs:w.scanned<w.queue.length
 ·have hsc:=hw.sc
  have hq:Z37 w∈w.queue:=getD_mem_iff.2 ⟨w.scanned.toNat,by omega,rfl⟩
  unfold Z0K at e ⊢
  rw[if_pos hs]at e ⊢
  cases hb:(List.range (Z1O w).length).find? (fun k=>decide (innE w (Z37 w) (Z1O w) k≠0))with
  | none =>
   have h0:∀ j,j<(Z1O w).length→innE w (Z37 w) (Z1O w) j=0:=fun j hj=>by
    have:=List.find?_eq_none.1 hb j (List.mem_range.2 hj)
    simpa using this
   exact hsd _ _ (ZhP P hin hw h hp hq (l:=Z1O w) (Z4J (hdW w (Z37 w))) (Z1O w).length (Nat.le_refl _) h0)
  | some k =>
   simp only[hb]at e
   have:=(List.find?_range_eq_some.1 hb).1
   simp[e]at this
 ·have e:Z0K w=(w,false,0):=by rw[Z0K,if_neg hs]
  rw[e]
  exact hp
include hin hsd in
theorem Zjp{w:Work}(hw:WkOk w)(h:Inv w)(hp:P w):∀ k,(∀ j,j<k→Z3i w j=false)→P (itW w k)
 | 0,_=>hp
 | k+1,hh=>by
  have ih:=Zjp hw h hp k (fun j hj=>hh j (by omega))
  have ok:=(Z3S hw k (fun j hj=>hh j (by omega))).1
  have iv:=(Z6Z hw h k (fun j hj=>hh j (by omega))).1
  have hk:=hh k (by omega)
  simp only[Z3i,decide_eq_false_iff_not,not_or,Decidable.not_not]at hk
  exact Zhp P hin hsd ok iv ih hk.1
include hin hsd in
theorem Znk{w:Work}(hw:WkOk w)(h:Inv w)(hp:P w)(e:(allF w).2=0):P (allF w).1:=by
 obtain⟨k,hb⟩:=Z4G hw
 obtain⟨h1,h2,h3⟩:=List.find?_range_eq_some.1 hb
 have h0:∀ j,j<k→Z3i w j=false:=fun j hj=>by simpa using h3 j hj
 unfold allF at e ⊢
 rw[hb]at e ⊢
 simp only at e ⊢
 split at e
 ·rename_i c
  rw[if_pos c]
  exact Zhp P hin hsd (Z3S hw k h0).1 (Z6Z hw h k h0).1 (Zjp P hin hsd hw h hp k h0) c
 ·rename_i c
  exact absurd e c
include hf in
theorem ZaK{w:Work}{roots:List Int}(hw:WkOk w)(h:Inv w)(hp:P w):∀ k,(∀ j,j<k→Z2e w roots j=0)→P (Z1r w roots k).1
 | 0,_=>hp
 | k+1,hh=>by
  have ih:=ZaK hw h hp k (fun j hj=>hh j (by omega))
  have ok:=(Z36 (roots:=roots) hw k (fun j hj=>hh j (by omega))).1
  have iv:=(Z52 (roots:=roots) hw h k (fun j hj=>hh j (by omega))).1
  exact hf _ _ ok iv ih (hh k (by omega))
include hf in
theorem ZaL{w:Work}{roots:List Int}(hw:WkOk w)(h:Inv w)(hp:P w)(e:(rootsF w roots).2.2=0):P (rootsF w roots).1:=by
 unfold rootsF at e ⊢
 cases hb:(List.range roots.length).find? (fun k=>decide (Z2e w roots k≠0))with
 | none =>
  have h0:∀ j,j<roots.length→Z2e w roots j=0:=fun j hj=>by
   have:=List.find?_eq_none.1 hb j (List.mem_range.2 hj)
   simpa using this
  exact ZaK P hf hw h hp roots.length h0
 | some k =>
  simp only[hb]at e
  have:=(List.find?_range_eq_some.1 hb).1
  simp[e]at this
include hf hin hsd in
theorem ZlZ{h:Heap}{s:List Int}(hw:WOk h.words)(hp:Z02 h=true)(h0:P (beginW h))(e:(rootsF (beginW h) s).2.2=0)(e2:(allF (rootsF (beginW h) s).1).2=0):P (cW2 h s):=by
 have hb:=Z3h hw hp
 have hi:=Z38 hp
 have ho:=Z35 (roots:=s) hb hi e
 exact Znk P hin hsd ho.1 ho.2.1 (ZaL P hf hb hi h0 e) e2
end
theorem Zhb{l:List Page}{i k:Nat}(h:∀ m,m<k→i+1+m<l.length∧(l.getD (i+1+m) default).kind=3):k≤Z0y l i:=by
 by_cases hc:k≤Z0y l i
 ·exact hc
 ·have h1:=h (Z0y l i) (by omega)
  exact absurd h1.2 (Zfh h1.1)
theorem PT.flip{c:Conf}{l:List Page}(h:PT c l){i:Nat}(hi:i<l.length)(hk:(l.getD i default).kind=2){s:Int}(hs:0≤s∧s≤1):PT c (Z0I l i (Z0y l i) s):=by
 have hr:∀ j,i<j→j≤i+Z0y l i→(l.getD j default).kind=3:=fun j h1 h2=>by
  have:=(Z8y (l:=l) (i:=i) (m:=j-i-1) (by omega)).2
  rwa [show i+1+(j-i-1)=j by omega]at this
 have hg:∀ j,j<l.length→((Z0I l i (Z0y l i) s).getD j default).kind=(l.getD j default).kind∧((Z0I l i (Z0y l i) s).getD j default).used=(l.getD j default).used∧((Z0I l i (Z0y l i) s).getD j default).pins=(l.getD j default).pins:=fun j hj=>by
  rw[Z1x hj]
  split
  ·exact⟨rfl,rfl,rfl⟩
  ·exact⟨rfl,rfl,rfl⟩
 refine⟨?_, ?_, ?_⟩
 ·intro j hj
  rw[Z1A]at hj
  have b:=h.b j hj
  rw[Z1x hj]
  split
  ·rename_i hc
   refine⟨hs,b.n,b.k,fun q=>?_,b.k1,b.k3⟩
   exfalso
   have q':(l.getD j default).kind=0:=q
   by_cases hij:j=i
   ·subst hij;omega
   ·have:=hr j (by omega) hc.2;omega
  ·exact b
 ·intro j hj hk2
  rw[Z1A]at hj ⊢
  rw[(hg j hj).1]at hk2
  rw[(hg j hj).2.1]
  have q:=h.lg j hj hk2
  refine⟨q.1,fun m h1 h2=>?_⟩
  have r:=q.2 m h1 h2
  refine⟨r.1,by rw[(hg _ r.1).1];exact r.2.1, ?_⟩
  rw[Z1x r.1,Z1x hj]
  by_cases hij:j=i
  ·subst hij
   have hT:(need c (l.getD j default).used-1).toNat≤Z0y l j:=Zhb fun m' hm'=>by
    have:=q.2 (m'+1) (by omega) (by omega)
    rw[show j+1+m'=j+(m'+1) by omega]
    exact⟨this.1,this.2.1⟩
   rw[if_pos (by omega),if_pos (by omega)]
   rfl
  ·have hj1:¬ (i≤j∧j≤i+Z0y l i):=fun hc=>by
    have:=hr j (by omega) hc.2;omega
   have hj2:¬ (i≤j+m∧j+m≤i+Z0y l i):=fun hc=>by
    by_cases hlt:j<i
    ·by_cases he:j+m=i
     ·have:=r.2.1;rw[he]at this;omega
     ·have:=(q.2 (i-j) (by omega) (by omega)).2.1
      rw[show j+(i-j)=i by omega]at this
      omega
    ·omega
   rw[if_neg hj1,if_neg hj2]
   exact r.2.2
 ·intro j hj hk3
  rw[Z1A]at hj
  rw[(hg j hj).1]at hk3
  obtain⟨a,a1,a2,a3⟩:=h.tl j hj hk3
  exact⟨a,a1,by rw[(hg a (by omega)).1];exact a2,by rw[(hg a (by omega)).2.1];exact a3⟩
structure Tab (B:Int) (w:Work):Prop where
 pt:PT w.heap.conf w.heap.pages
 tk:∀ x∈w.taken,(w.heap.pages.getD x.toNat default).space=1-w.heap.space
 pin:∀ p∈w.heap.pages,p.pins≤B
theorem Tab.withWords{B:Int}{w:Work}(h:Tab B w)(l:List Int):Tab B ⟨⟨w.heap.conf,l,w.heap.pages,w.heap.space,w.heap.bump⟩,w.old,w.taken,w.queue,w.scanned,w.rep⟩:=⟨h.pt,h.tk,h.pin⟩
theorem Tab.place{B:Int}(hB:0≤B){w:Work}(hw:WkOk w)(h:Tab B w){n:Int}(hn:1≤n∧n≤w.heap.conf.pw)(hc:(w.place n).2.2=true):PT (w.place n).1.heap.conf (w.place n).1.heap.pages∧(∀ x∈(w.place n).1.taken,((w.place n).1.heap.pages.getD x.toNat default).space=1-(w.place n).1.heap.space)∧∀ p∈(w.place n).1.heap.pages,p.pins≤B:=by
 have hsp:=hw.sp
 by_cases hf:Z4x w n
 ·have e:w.place n=(⟨⟨w.heap.conf,w.heap.words,Z24 w.heap.pages (Z0Y w).toNat n,w.heap.space,w.heap.bump⟩,w.old,w.taken,w.queue,w.scanned,w.rep⟩,4096+Z0Y w*w.heap.conf.pw+(w.heap.pages.getD (Z0Y w).toNat default).used,true):=by rw[Work.place,if_pos hf]
  unfold Z4x at hf
  have hm:=hw.tk _ (Z1w hf.1)
  have hi:(Z0Y w).toNat<w.heap.pages.length:=by omega
  have ok:=h.pt.b _ hi
  have u:=ok.k1 hm.2.2
  rw[e]
  refine⟨h.pt.setPage hi (Or.inr hm.2.2) ⟨ok.s,ok.n,ok.k,fun q=>by simp only at q;omega,fun _=>by simp only;omega,fun q=>by simp only at q;omega⟩ (Or.inr hm.2.2), ?_, ?_⟩
  ·intro x hx
   simp only
   rw[Z3C,Z0p hi]
   split
   ·rename_i q
    have:=h.tk _ (Z1w hf.1)
    simp only
    omega
   ·exact h.tk x hx
  ·intro p hp
   rcases List.mem_or_eq_of_mem_set hp with hp | rfl
   ·exact h.pin p hp
   ·exact h.pin (w.heap.pages.getD (Z0Y w).toNat default) (getD_in hi)
 ·by_cases hg:0≤Z0w w
  ·have e:w.place n=(⟨⟨w.heap.conf,w.heap.words,Z24 (Z2F w) (Z0w w).toNat n,w.heap.space,w.heap.bump⟩,w.old,w.taken++[Z0w w],w.queue,w.scanned,w.rep⟩,4096+Z0w w*w.heap.conf.pw,true):=by rw[Work.place,if_neg hf,if_pos hg]
   obtain⟨g1,g2,g3⟩:=Z3l (h:=⟨w.heap.conf,w.heap.words,w.heap.pages,1-w.heap.space,w.heap.bump⟩) (by simp only;omega) hg n
   have g1':Z24 (Z2F w) (Z0w w).toNat n=w.heap.pages.set (Z0w w).toNat ⟨1,1-w.heap.space,n,0⟩:=g1
   have g2':(w.heap.pages.getD (Z0w w).toNat default).kind=0:=g2
   have g3':(Z0w w).toNat<w.heap.pages.length:=g3
   rw[e,g1']
   refine⟨h.pt.setPage g3' (Or.inl g2') ⟨by simp only;omega,by simp,by simp,by simp,fun _=>by simp only;omega,by simp⟩ (Or.inr rfl), ?_, ?_⟩
   ·intro x hx
    simp only at hx ⊢
    rw[Z0p g3']
    split
    ·rfl
    ·rename_i hne
     rcases List.mem_append.1 hx with hx | hx
     ·exact h.tk x hx
     ·simp at hx;subst hx;exact absurd rfl hne
   ·intro p hp
    rcases List.mem_or_eq_of_mem_set hp with hp | rfl
    ·exact h.pin p hp
    ·exact hB
  ·rw[Work.place,if_neg hf,if_neg hg]at hc
   simp at hc
theorem Tab.fwd{B:Int}(hB:0≤B)(w:Work)(r:Int)(hw:WkOk w)(hi:Inv w)(h:Tab B w)(e:(w.fwd r).2.2=0):Tab B (w.fwd r).1:=by
 unfold Work.fwd at e ⊢
 split at e
 ·rename_i c1
  rw[if_pos c1]
  exact h
 ·rename_i c1
  rw[if_neg c1]
  split at e
  ·simp at e
  ·rename_i c2
   rw[if_neg c2]
   have c2':r∈w.old:=Decidable.not_not.1 c2
   split at e
   ·rename_i c3
    rw[if_pos c3]
    exact h
   ·rename_i c3
    rw[if_neg c3]
    split at e
    ·simp at e
    ·rename_i c4
     rw[if_neg c4]
     split at e
     ·rename_i c5
      rw[if_pos c5]
      exact⟨h.pt,h.tk,h.pin⟩
     ·rename_i c5
      rw[if_neg c5]
      split at e
      ·rename_i c6
       rw[if_pos c6]
       have hsp:=hw.sp
       have o:=Z3F hw.conf (Decidable.not_not.1 c4)
       have hpl:=hw.pl
       have hl:Z1h w r<w.heap.pages.length:=by unfold Z1h;omega
       refine⟨h.pt.flip hl c6 (by omega), ?_, ?_⟩
       ·intro x hx
        have t:=hw.tk x hx
        simp only[Work.keep,Work.flip]
        rw[Z1x (by omega)]
        split
        ·rename_i hc
         exfalso
         by_cases hx':x.toNat=Z1h w r
         ·rw[hx']at t;omega
         ·have:=(Z8y (l:=w.heap.pages) (i:=Z1h w r) (m:=x.toNat-Z1h w r-1) (by omega)).2
          rw[show Z1h w r+1+(x.toNat-Z1h w r-1)=x.toNat by omega]at this
          omega
        ·exact h.tk x hx
       ·intro p hp
        simp only[Work.keep,Work.flip,Z0I,List.mem_map,List.mem_range]at hp
        obtain⟨j,hj,rfl⟩:=hp
        split
        ·exact h.pin (w.heap.pages.getD j default) (getD_in hj)
        ·exact h.pin (w.heap.pages.getD j default) (getD_in hj)
      ·rename_i c6
       rw[if_neg c6]
       split at e
       ·simp at e
       ·rename_i c7
        rw[if_neg c7]
        have c7':(w.place (sizeH (hdW w r))).2.2=true:=by simpa using c7
        have hz:=hi.z r c2'
        have hs:=Z6g w r
        have hp:sizeH (hdW w r)≤w.heap.conf.pw:=by
         rw[Z3v]
         rcases hz with hz | hz
         ·exact absurd hz c6
         ·exact hz
        obtain⟨q1,q2,q3⟩:=h.place hB hw ⟨hs.1,hp⟩ c7'
        exact⟨q1,q2,q3⟩
theorem Z4A{B:Int}{h:Heap}(hp:Z02 h=true)(hb:∀ p∈h.pages,p.pins≤B):Tab B (beginW h):=by
 have hp':=hp
 rw[Z1g]at hp'
 have hs:=hp'.2.2.2.1
 refine⟨?_,by simp[beginW], ?_⟩
 ·refine hp'.2.2.2.2.2.mapPages _ ?_ ?_ ?_ ?_
  ·intro p hp
   unfold begQ
   split
   ·rename_i hc
    exact⟨by simp only;omega,hp.n,hp.k,fun q=>by simp only at q;omega,hp.k1,fun q=>by simp only at q;omega⟩
   ·exact hp
  ·intro p hp hk
   unfold begQ at hk ⊢
   split at hk
   ·rename_i hc;simp only at hk;omega
   ·rename_i hc;rw[if_neg hc];exact⟨hk,rfl⟩
  ·intro p hp hk
   unfold begQ at hk
   split at hk
   ·rename_i hc;simp only at hk;omega
   ·exact hk
  ·intro p q hp hq h2 h3 he
   have e1:begQ (1-h.space) p=p:=by rw[begQ,if_neg (by omega)]
   have e2:begQ (1-h.space) q=q:=by rw[begQ,if_neg (by omega)]
   rw[e1,e2]
   exact⟨⟨fun _=>h3,fun _=>h2⟩,fun _=>he⟩
 ·intro p hp
  simp only[beginW,List.mem_map]at hp
  obtain⟨q,hq,rfl⟩:=hp
  unfold begQ
  split
  ·exact hb q hq
  ·exact hb q hq
theorem Zms{B:Int}(hB:0≤B){h:Heap}{s:List Int}(hw:WOk h.words)(hp:Z02 h=true)(hb:∀ p∈h.pages,p.pins≤B)(e:(rootsF (beginW h) s).2.2=0)(e2:(allF (rootsF (beginW h) s).1).2=0):Tab B (cW2 h s) :=
 ZlZ (Tab B) (fun w r hw hi h e=>h.fwd hB w r hw hi e) (fun w q j hw hi h hq h0 h1 e=>(Tab.fwd hB w _ hw hi h e).withWords _) (fun w n h=>⟨h.pt,h.tk,h.pin⟩) hw hp (Z4A hp hb) e e2
structure MOk (w:WorldM) (n:Nat):Prop where
 words:WOk w.heap.words
 hv:Z05 w.heap.conf=true
 pl:(w.heap.pages.length:Int)=w.heap.conf.pg
 L:(w.heap.words.length:Int)=w.heap.conf.pw*w.heap.conf.pg
 pins:∀ j,j<w.heap.pages.length→0≤(w.heap.pages.getD j default).pins∧(w.heap.pages.getD j default).pins≤n
 us:∀ j,j<w.heap.pages.length→0≤(w.heap.pages.getD j default).used∧(w.heap.pages.getD j default).used≤256
 strong:ULe w.strong
 weak:ULe w.weak
 sl:w.strong.length≤n
 wl:w.weak.length≤n
theorem MOk.wm{w:WorldM}{n:Nat}(h:MOk w n)(hn:n≤1000000):WMok w:=⟨h.words,h.strong,h.weak,Nat.le_trans h.sl (by omega),Nat.le_trans h.wl (by omega)⟩
def WorldM.dup(w:WorldM)(t:Tape):WorldM:=⟨w.heap,w.strong++[w.pick t],w.weak⟩
def WorldM.step(w:WorldM)(t:Tape):WorldM :=
 if t.next 12≤3 then w.put ((t.step 12).header w.heap.conf)
 else if t.next 12≤6 then w.link (t.step 12)
 else if t.next 12≤7 then w.pin (t.step 12)
 else if t.next 12≤9 then w.drop (t.step 12)
 else if t.next 12≤10 then w.collect
 else w.dup (t.step 12)
def WorldM.stepT(w:WorldM)(t:Tape):Tape :=
 if t.next 12≤3 then(t.step 12).headerT w.heap.conf
 else if t.next 12≤6 then w.linkT (t.step 12)
 else if t.next 12≤7 then w.pinT (t.step 12)
 else if t.next 12≤9 then w.dropT (t.step 12)
 else if t.next 12≤10 then t.step 12
 else w.pickT (t.step 12)
theorem Z50(t:Tape)(c:Conf):0≤(t.header c).map∧(t.header c).map≤4294967295:=by
 have h:∀ n:Int,0≤((Z1F t c).step 4).next (2^(min (min n 32) 12).toNat)∧((Z1F t c).step 4).next (2^(min (min n 32) 12).toNat)≤4294967295:=by
  intro n
  have p:=Zm0 (n:=min (min n 32) 12) (by omega)
  have r:=Z0J ((Z1F t c).step 4) (n:=2^(min (min n 32) 12).toNat) p.1
  omega
 unfold Tape.header
 split
 ·simp
 ·split
  ·simp
  ·exact h _
theorem Z1Z(t:Tape)(d:Int)(hd:t.next 12=d)(ht:TOk t):LentSpec Tryz.prog 33 [.pt 0 0 0,int 12] [t.b] (int d) [(t.step 12).b]:=by
 rw[← hd]
 exact Z0z t 12 ht (by decide) (by decide)
section
variable (w:WorldM) (t:Tape) (n:Nat) (hm:MOk w n) (hn:n≤1000000) (ht:TOk t) (ha:t.at'≤900000)
include hm hn ht ha
theorem ZiE:LentSpec Tryz.prog 31 [w.av,.pt 0 0 0] [t.b] (w.step t).av [(w.stepT t).b]:=by
 have hw:=hm.wm hn
 have h1:=hm.words
 have h2:=hm.strong
 have h3:=hm.weak
 have h4:=hm.sl
 have h5:=hm.wl
 have s1:=Z3N (t:=t) 12
 have k1:=Z4V ht s1.2.2 (by omega) (by omega)
 have n1:=Z0J t (n:=12) (by decide)
 have hmap:=Z50 (t.step 12) w.heap.conf
 have hv:=hm.hv
 have hpl:=hm.pl
 have hpn:∀ j,j<w.heap.pages.length→-1048576≤(w.heap.pages.getD j default).pins∧(w.heap.pages.getD j default).pins≤4294967296:=fun j hj=>by
  have:=hm.pins j hj;omega
 have hd:t.next 12=0∨t.next 12=1∨t.next 12=2∨t.next 12=3∨t.next 12=4∨t.next 12=5∨t.next 12=6∨t.next 12=7∨t.next 12=8∨t.next 12=9∨t.next 12=10∨t.next 12=11:=by omega
 rcases hd with hd | hd | hd | hd | hd | hd | hd | hd | hd | hd | hd | hd
 ·have e7:w.step t=w.put ((t.step 12).header w.heap.conf):=by simp[WorldM.step,hd]
  have e8:w.stepT t=(t.step 12).headerT w.heap.conf:=by simp[WorldM.stepT,hd]
  rw[e7,e8]
  exact lF Tryz.func31 [] (Fp 6 (@Z1Z t (0) ‹_› ‹_›) (Fp 17 (@Z5i (t.step 12) w.heap.conf ‹_› (by omega) ‹_›) (Fc 18 (@Z7s w ((t.step 12).header w.heap.conf) ‹_› ‹_›) Fz)))
 ·have e7:w.step t=w.put ((t.step 12).header w.heap.conf):=by simp[WorldM.step,hd]
  have e8:w.stepT t=(t.step 12).headerT w.heap.conf:=by simp[WorldM.stepT,hd]
  rw[e7,e8]
  exact lF Tryz.func31 [] (Fp 6 (@Z1Z t (1) ‹_› ‹_›) (Fp 17 (@Z5i (t.step 12) w.heap.conf ‹_› (by omega) ‹_›) (Fc 18 (@Z7s w ((t.step 12).header w.heap.conf) ‹_› ‹_›) Fz)))
 ·have e7:w.step t=w.put ((t.step 12).header w.heap.conf):=by simp[WorldM.step,hd]
  have e8:w.stepT t=(t.step 12).headerT w.heap.conf:=by simp[WorldM.stepT,hd]
  rw[e7,e8]
  exact lF Tryz.func31 [] (Fp 6 (@Z1Z t (2) ‹_› ‹_›) (Fp 17 (@Z5i (t.step 12) w.heap.conf ‹_› (by omega) ‹_›) (Fc 18 (@Z7s w ((t.step 12).header w.heap.conf) ‹_› ‹_›) Fz)))
 ·have e7:w.step t=w.put ((t.step 12).header w.heap.conf):=by simp[WorldM.step,hd]
  have e8:w.stepT t=(t.step 12).headerT w.heap.conf:=by simp[WorldM.stepT,hd]
  rw[e7,e8]
  exact lF Tryz.func31 [] (Fp 6 (@Z1Z t (3) ‹_› ‹_›) (Fp 17 (@Z5i (t.step 12) w.heap.conf ‹_› (by omega) ‹_›) (Fc 18 (@Z7s w ((t.step 12).header w.heap.conf) ‹_› ‹_›) Fz)))
 ·have e7:w.step t=w.link (t.step 12):=by simp[WorldM.step,hd]
  have e8:w.stepT t=w.linkT (t.step 12):=by simp[WorldM.stepT,hd]
  rw[e7,e8]
  exact lF Tryz.func31 [] (Fp 6 (@Z1Z t (4) ‹_› ‹_›) (Fp 25 (@Z8A w (t.step 12) ‹_› ‹_› (by omega)) Fz))
 ·have e7:w.step t=w.link (t.step 12):=by simp[WorldM.step,hd]
  have e8:w.stepT t=w.linkT (t.step 12):=by simp[WorldM.stepT,hd]
  rw[e7,e8]
  exact lF Tryz.func31 [] (Fp 6 (@Z1Z t (5) ‹_› ‹_›) (Fp 25 (@Z8A w (t.step 12) ‹_› ‹_› (by omega)) Fz))
 ·have e7:w.step t=w.link (t.step 12):=by simp[WorldM.step,hd]
  have e8:w.stepT t=w.linkT (t.step 12):=by simp[WorldM.stepT,hd]
  rw[e7,e8]
  exact lF Tryz.func31 [] (Fp 6 (@Z1Z t (6) ‹_› ‹_›) (Fp 25 (@Z8A w (t.step 12) ‹_› ‹_› (by omega)) Fz))
 ·have e7:w.step t=w.pin (t.step 12):=by simp[WorldM.step,hd]
  have e8:w.stepT t=w.pinT (t.step 12):=by simp[WorldM.stepT,hd]
  rw[e7,e8]
  exact lF Tryz.func31 [] (Fp 6 (@Z1Z t (7) ‹_› ‹_›) (Fp 30 (@Zjo w (t.step 12) ‹_› ‹_› (by omega) ‹_› (by omega) ‹_›) Fz))
 ·have e7:w.step t=w.drop (t.step 12):=by simp[WorldM.step,hd]
  have e8:w.stepT t=w.dropT (t.step 12):=by simp[WorldM.stepT,hd]
  rw[e7,e8]
  exact lF Tryz.func31 [] (Fp 6 (@Z1Z t (8) ‹_› ‹_›) (Fp 36 (@ZbP w (t.step 12) ‹_› ‹_› (by omega)) Fz))
 ·have e7:w.step t=w.drop (t.step 12):=by simp[WorldM.step,hd]
  have e8:w.stepT t=w.dropT (t.step 12):=by simp[WorldM.stepT,hd]
  rw[e7,e8]
  exact lF Tryz.func31 [] (Fp 6 (@Z1Z t (9) ‹_› ‹_›) (Fp 36 (@ZbP w (t.step 12) ‹_› ‹_› (by omega)) Fz))
 ·have e7:w.step t=w.collect:=by simp[WorldM.step,hd]
  have e8:w.stepT t=t.step 12:=by simp[WorldM.stepT,hd]
  rw[e7,e8]
  exact lF Tryz.func31 [] (Fp 6 (@Z1Z t (10) ‹_› ‹_›) (Fc 40 (@Zcf w ‹_› (by omega) (by omega) ‹_› ‹_›) Fz))
 ·have e7:w.step t=w.dup (t.step 12):=by simp[WorldM.step,hd]
  have e8:w.stepT t=w.pickT (t.step 12):=by simp[WorldM.stepT,hd]
  rw[e7,e8]
  exact lF Tryz.func31 [] (Fh 49 [.els (List.map wdv (w.strong++[w.pick (t.step 12)]))] (Fp 6 (@Z1Z t (11) ‹_› ‹_›) (Fs 41 (List.map wdv []) (Fa (by(simp[WorldM.dup, *];omega):(List.map wdv []).length+(List.map wdv w.strong).length≤2^30) (Fs 44 (List.map wdv w.strong) (Fp 47 (@Z1Y w (t.step 12) ‹_› ‹_› (by omega)) (Fs 48 (List.map wdv [w.pick (t.step 12)]) (Fa (by(simp[WorldM.dup, *];omega):(List.map wdv w.strong).length+(List.map wdv [w.pick (t.step 12)]).length≤2^30) (Fa (by simp[WorldM.dup,List.map_take,List.map_drop,List.map_set,List.map_append,wdv,idv]:List.map wdv w.strong++List.map wdv [w.pick (t.step 12)]=List.map wdv (w.strong++[w.pick (t.step 12)])) Fz)))))))))
end
theorem Z9Y{pw s:Int}{l:List Page}{ws:List Int}(h:WOk ws):∀ i,WOk (Z29 pw s l ws i)
 | 0=>h
 | i+1=>by
  have ih:=Z9Y (pw:=pw) (s:=s) (l:=l) h i
  unfold Z29
  split
  ·intro x hx
   simp only[spl,List.mem_append,List.mem_replicate]at hx
   rcases hx with(hx | hx) | hx
   ·exact ih x (List.mem_of_mem_take hx)
   ·omega
   ·exact ih x (List.mem_of_mem_drop hx)
  ·exact ih
theorem Zlp{c:Conf}{l:List Page}(h:PT c l)(s:Int):PT c (l.map (Z1m s)):=by
 refine h.mapPages _ ?_ ?_ ?_ ?_
 ·intro p hp
  unfold Z1m
  split
  ·exact⟨by simp,by simp,by simp,by simp,by simp,by simp⟩
  ·exact hp
 ·intro p hp hk
  unfold Z1m at hk ⊢
  split at hk
  ·simp at hk
  ·rename_i hc;rw[if_neg hc];exact⟨hk,rfl⟩
 ·intro p hp hk
  unfold Z1m at hk
  split at hk
  ·simp at hk
  ·exact hk
 ·intro p q hp hq h2 h3 he
  by_cases hg:p.space=s
  ·have e1:Z1m s p=⟨0,0,0,0⟩:=by rw[Z1m,if_pos ⟨by omega,hg⟩]
   have e2:Z1m s q=⟨0,0,0,0⟩:=by rw[Z1m,if_pos ⟨by omega,by omega⟩]
   rw[e1,e2]
   simp
  ·have e1:Z1m s p=p:=by rw[Z1m,if_neg (by unfold Z3a;omega)]
   have e2:Z1m s q=q:=by rw[Z1m,if_neg (by unfold Z3a;omega)]
   rw[e1,e2]
   exact⟨⟨fun _=>h3,fun _=>h2⟩,fun _=>he⟩
theorem Z8d{w:Work}(hw:WkOk w)(k:List Int):∀ i,∀ x∈Z2U w k i,0≤x∧x≤4294967296
 | 0,x,hx=>by simp[Z2U]at hx
 | i+1,x,hx=>by
  simp only[Z2U,List.mem_append,List.mem_singleton]at hx
  rcases hx with hx | rfl
  ·exact Z8d hw k i x hx
  ·have h:=Z49 w k i
   unfold Z6d
   split
   ·omega
   ·unfold Z1t
    rw[h.2.2.2.1,h.1]
    split
    ·rename_i hq
     have:=hw.q _ hq
     omega
    ·have:=Z6j (Z0U hw.words (k.getD i default)).1
     omega
structure ColOk (B:Int) (h:Heap) (s k:List Int):Prop where
 p0:Z02 h=true
 p1:Z02 (Z0g h s k).1=true
 w:WOk (Z0g h s k).1.words
 n:∀ p∈(Z0g h s k).1.pages,p.pins≤B
 c:(Z0g h s k).1.conf=h.conf
 r:∀ x∈(Z0g h s k).2.1,0≤x∧x≤4294967296
 rl:(Z0g h s k).2.1.length=s.length
 v:∀ x∈(Z0g h s k).2.2.1,0≤x∧x≤4294967296
 vl:(Z0g h s k).2.2.1.length=k.length
theorem Z6K{B:Int}(hB:0≤B){h:Heap}{s k:List Int}(hw:WOk h.words)(hb:∀ p∈h.pages,p.pins≤B)(e:(Z0g h s k).2.2.2.2=0):ColOk B h s k:=by
 by_cases hp:Z02 h=true
 ·by_cases hr:Z0k h s=true∧Z0k h k=true
  ·by_cases e1:(rootsF (beginW h) s).2.2=0
   ·by_cases e2:(allF (rootsF (beginW h) s).1).2=0
    ·have e7:Z0g h s k=(endH (cW5 h s k),(rootsF (beginW h) s).2.1,Z2U (cW2 h s) k k.length,(cW5 h s k).rep,0):=by rw[Z0g,if_pos hp,if_pos hr,if_pos e1,if_pos e2]
     have ho:=Z35 (roots:=s) (Z3h hw hp) (Z38 hp) e1
     have c:=cOk h s k hw hp e1 e2
     have c5:=cOk5 h s k hw hp e1 e2
     have tb:=Zms hB hw hp hb e1 e2
     obtain⟨g1,g2,g3,g4,g5⟩:=c.h4
     have hsp:=c.w2.sp
     have hc2:(cW2 h s).heap.conf=h.conf:=c.x2.c
     have hpl:=c.w2.pl
     rw[hc2]at hpl
     have hL:=c.i4.L
     rw[g1]at hL
     have hfl:=Z5j (s:=(cW4 h s k).heap.space) c5.2.2.2.1 (cW4 h s k).heap.pages.length (Nat.le_refl _)
     refine⟨hp, ?_, ?_, ?_, ?_, ?_, ?_, ?_, ?_⟩
     ·rw[e7,Z1g]
      simp only[endH,cW5,Z11,g1,g2,g3,g4]
      have hptf:=Zlp (s:=(cW2 h s).heap.space) tb.pt
      rw[hc2]at hptf
      refine⟨(Z07 hp).1, ?_,by simp only[List.length_map];exact hpl,by omega, ?_,hptf⟩
      ·rw[g1,g2,g3]at hfl
       rw[hfl]
       exact hL
      ·split
       ·rename_i ht
        have hm:=Z1w (w:=cW2 h s) ht
        have t1:=c.w2.tk _ hm
        have t2:=tb.tk _ hm
        refine Or.inr ⟨t1.1,by simp only[List.length_map];exact t1.2.1, ?_⟩
        have hx:(List.map (Z1m (cW2 h s).heap.space) (cW2 h s).heap.pages).getD (Z0Y (cW2 h s)).toNat default=(cW2 h s).heap.pages.getD (Z0Y (cW2 h s)).toNat default:=by
         have hi:(Z0Y (cW2 h s)).toNat<(cW2 h s).heap.pages.length:=by omega
         have:(List.map (Z1m (cW2 h s).heap.space) (cW2 h s).heap.pages).getD (Z0Y (cW2 h s)).toNat default=Z1m (cW2 h s).heap.space ((cW2 h s).heap.pages.getD (Z0Y (cW2 h s)).toNat default):=by simp[List.getD_eq_getElem?_getD,hi]
         rw[this,Z1m,if_neg (by unfold Z3a;omega)]
        show((List.map (Z1m (cW2 h s).heap.space) (cW2 h s).heap.pages).getD (Z0Y (cW2 h s)).toNat default).kind=1
        rw[hx]
        exact t1.2.2
       ·exact Or.inl rfl
     ·rw[e7]
      exact Z9Y c.f4.words _
     ·rw[e7]
      intro p hp'
      simp only[endH,cW5,Z11,g2,List.mem_map]at hp'
      obtain⟨q,hq,rfl⟩:=hp'
      unfold Z1m
      split
      ·exact hB
      ·exact tb.pin q hq
     ·rw[e7]
      exact g1
     ·rw[e7]
      exact ho.2.2.2.1
     ·rw[e7]
      exact ho.2.2.2.2
     ·rw[e7]
      exact Z8d c.w2 k _
     ·rw[e7]
      exact Z88 _ _ _
    ·rw[Z0g,if_pos hp,if_pos hr,if_pos e1,if_neg e2]at e
     exact absurd e e2
   ·rw[Z0g,if_pos hp,if_pos hr,if_neg e1]at e
    exact absurd e e1
  ·rw[Z0g,if_pos hp,if_neg hr]at e
   simp at e
 ·rw[Z0g,if_neg hp]at e
  simp at e
theorem ZdG{h:Heap}(hp:Z02 h=true):∀ p∈h.pages,0≤p.pins:=by
 rw[Z1g]at hp
 intro p hp'
 obtain⟨i,hi,e⟩:=List.mem_iff_getElem.1 hp'
 have:=(hp.2.2.2.2.2.b i hi).n.1
 rwa [show h.pages.getD i default=p by rw[List.getD_eq_getElem?_getD,List.getElem?_eq_getElem hi,e];rfl]at this
theorem MOk.of_proper{w:WorldM}{n:Nat}(hp:Z02 w.heap=true)(hw:WOk w.heap.words)(hn:∀ p∈w.heap.pages,p.pins≤n)(h1:ULe w.strong)(h2:ULe w.weak)(h3:w.strong.length≤n)(h4:w.weak.length≤n):MOk w n:=by
 have po:=Z07 hp
 exact⟨hw,po.1,po.2.2.2.2.2.2.2.1,po.2.2.2.2.2.1,fun j hj=>⟨ZdG hp _ (getD_in hj),hn _ (getD_in hj)⟩,fun j hj=>by have:=Z0T hp hj;omega,h1,h2,h3,h4⟩
theorem MOk.pin_mem{w:WorldM}{n:Nat}(h:MOk w n):∀ p∈w.heap.pages,0≤p.pins∧p.pins≤n:=by
 intro p hp
 obtain⟨i,hi,e⟩:=List.mem_iff_getElem.1 hp
 have:=h.pins i hi
 rwa [show w.heap.pages.getD i default=p by rw[List.getD_eq_getElem?_getD,List.getElem?_eq_getElem hi,e];rfl]at this
theorem MOk.mono{w:WorldM}{n:Nat}(h:MOk w n):MOk w (n+1) :=
 ⟨h.words,h.hv,h.pl,h.L,fun j hj=>by have:=h.pins j hj;omega,h.us,h.strong,h.weak,by have:=h.sl;omega,by have:=h.wl;omega⟩
theorem Zdd{l:List Int}(h:ULe l){x:Int}(hx:0≤x∧x≤18446744073709551615):ULe (l++[x]):=by
 intro y hy
 simp only[List.mem_append,List.mem_singleton]at hy
 rcases hy with hy | rfl
 ·exact h y hy
 ·exact hx
theorem MOk.put{w:WorldM}{n:Nat}(h:MOk w n){hd:Header}(hm:0≤hd.map∧hd.map≤4294967295):MOk (w.put hd) (n+1):=by
 unfold WorldM.put
 split
 ·rename_i e
  obtain⟨k1,k2,k3,k4,k5,k6,k7,k8⟩:=Zdw h.words hm e
  have po:=Z07 k1
  have hl:=h.sl
  have hl2:=h.wl
  have z:=(Z4Z k2).2.1
  have a1:=k3.lo
  have a2:=k3.hi
  refine MOk.of_proper k7 k8 ?_ (Zdd h.strong (by rw[k5];omega)) h.weak (by simp;omega) (by simp only;omega)
  intro p hp
  simp only at hp
  rw[k6]at hp
  simp only at hp
  rcases k3.pin p hp with q | ⟨q,q1,q2⟩
  ·omega
  ·have:=h.pin_mem q q1;omega
 ·exact h.mono
theorem MOk.link{w:WorldM}{n:Nat}(h:MOk w n)(hn:n≤1000000)(t:Tape):MOk (w.link t) (n+1):=by
 unfold WorldM.link
 split
 ·rename_i hc
  have g:=Z3P hc.1
  have hw:=h.wm hn
  have hlen:1≤(getH w.heap (w.pick t)).1.length:=by omega
  have n1:=Z0J (w.pickT (w.pickT t)) (n:=8) (by decide)
  have hi:0≤Z1J w t∧Z1J w t<(getH w.heap (w.pick t)).1.length:=by
   unfold Z1J
   rw[Int.tmod_eq_emod_of_nonneg n1.1]
   exact⟨Int.emod_nonneg _ (by omega),Int.emod_lt_of_pos _ (by omega)⟩
  have hv:0≤Z1N w t∧Z1N w t≤18446744073709551615:=by
   unfold Z1N
   split
   ·exact Z2V hw _
   ·have:=Z0J ((w.pickT (w.pickT t)).step 8) (n:=1048576) (by decide)
    omega
  obtain⟨s1,s2,s3⟩:=Z5G h.words hv hc.1 hi
  have hl:=h.sl
  have hl2:=h.wl
  refine MOk.of_proper s2 s3 ?_ h.strong h.weak (by simp only;omega) (by simp only;omega)
  intro p hp
  simp only at hp
  rw[s1]at hp
  have:=h.pin_mem p hp
  omega
 ·exact h.mono
theorem ZgB{w:WorldM}{n:Nat}(h:MOk w n){i:Nat}(hi:i<w.heap.pages.length){d:Int}(hd:d=1∨(d=-1∧0<(w.heap.pages.getD i default).pins)):MOk (pinB w i d) (n+1):=by
 have hp:=h.pins i hi
 refine⟨h.words,h.hv, ?_,h.L, ?_, ?_,h.strong,h.weak,by have:=h.sl;simp only[pinB];omega,by have:=h.wl;simp only[pinB];omega⟩
 ·simp only[pinB,List.length_set];exact h.pl
 ·intro j hj
  simp only[pinB,List.length_set]at hj ⊢
  rw[Z0p hi]
  split
  ·simp only;omega
  ·have:=h.pins j hj;omega
 ·intro j hj
  simp only[pinB,List.length_set]at hj ⊢
  rw[Z0p hi]
  split
  ·exact h.us i hi
  ·exact h.us j hj
theorem MOk.pin{w:WorldM}{n:Nat}(h:MOk w n)(t:Tape):MOk (w.pin t) (n+1):=by
 unfold WorldM.pin
 split
 ·rename_i e
  have o:=Z3F h.hv e
  have hpl:=h.pl
  have hi:pinI w t<w.heap.pages.length:=by unfold pinI;omega
  split
  ·rename_i hc
   exact ZgB h hi (Or.inr ⟨rfl,hc.1⟩)
  ·split
   ·exact ZgB h hi (Or.inl rfl)
   ·exact h.mono
 ·exact h.mono
theorem MOk.drop{w:WorldM}{n:Nat}(h:MOk w n)(t:Tape):MOk (w.drop t) (n+1):=by
 unfold WorldM.drop
 split
 ·have hl:=h.sl
  have hl2:=h.wl
  refine⟨h.words,h.hv,h.pl,h.L,fun j hj=>by have:=h.pins j hj;simp only;omega,h.us, ?_, ?_, ?_, ?_⟩
  ·intro x hx
   rcases List.mem_append.1 hx with hx | hx
   ·exact h.strong x (List.mem_of_mem_take hx)
   ·exact h.strong x (List.mem_of_mem_drop hx)
  ·simp only
   split
   ·exact Zdd h.weak (Z5o h.strong _)
   ·exact h.weak
  ·simp only[List.length_append,List.length_take,List.length_drop];omega
  ·simp only
   split
   ·simp;omega
   ·omega
 ·exact h.mono
theorem MOk.collect{w:WorldM}{n:Nat}(h:MOk w n):MOk w.collect (n+1):=by
 unfold WorldM.collect
 split
 ·rename_i e
  have c:=Z6K (B:=n) (by omega) h.words (fun p hp=>(h.pin_mem p hp).2) e
  have hl:=h.sl
  have hl2:=h.wl
  refine MOk.of_proper c.p1 c.w (fun p hp=>by have:=c.n p hp;omega) (fun x hx=>by have:=c.r x hx;omega) (fun x hx=>by have:=c.v x hx;omega) (by simp only[c.rl];omega) (by simp only[c.vl];omega)
 ·exact h.mono
theorem MOk.step{w:WorldM}{n:Nat}(h:MOk w n)(hn:n≤1000000)(t:Tape):MOk (w.step t) (n+1):=by
 unfold WorldM.step
 repeat' split
 ·exact h.put (Z50 _ _)
 ·exact h.link hn _
 ·exact h.pin _
 ·exact h.drop _
 ·exact h.collect
 ·have hl:=h.sl
  have hl2:=h.wl
  exact⟨h.words,h.hv,h.pl,h.L,fun j hj=>by have:=h.pins j hj;simp only[WorldM.dup]at *;omega,h.us,Zdd h.strong (Z2V (h.wm hn) _),h.weak,by simp only[WorldM.dup,List.length_append,List.length_singleton];omega,by simp only[WorldM.dup];omega⟩
theorem Z77(w:WorldM)(t:Tape)(n:Nat)(hm:MOk w n)(hn:n≤1000000)(ht:TOk t)(ha:t.at'≤900000):LentSpec Tryz.prog 31 [w.av,.pt 0 0 0] [t.b] (w.step t).av [(w.stepT t).b] :=
 ZiE w t n hm hn ht ha
structure TUp (n:Int) (t u:Tape):Prop where
 l:u.l=t.l
 lo:t.at'≤u.at'
 hi:u.at'≤t.at'+n
theorem TUp.step(t:Tape)(n:Int):TUp 1 t (t.step n):=by
 have:=Z3N (t:=t) n
 exact⟨this.2.2,this.1,this.2.1⟩
theorem TUp.trans{m n:Int}{t u v:Tape}(h1:TUp m t u)(h2:TUp n u v):TUp (m+n) t v :=
 ⟨h2.l.trans h1.l,by have:=h1.lo;have:=h2.lo;omega,by have:=h1.hi;have:=h2.hi;omega⟩
theorem TUp.mono{m n:Int}{t u:Tape}(h:TUp m t u)(hmn:m≤n):TUp n t u:=⟨h.l,h.lo,by have:=h.hi;omega⟩
theorem Zg8(t:Tape)(c:Conf):TUp 10 t (t.headerT c):=by
 have h1:TUp 4 t (Z1F t c):=by
  unfold Z1F
  split
  ·exact(((TUp.step t _).trans (TUp.step _ 12)).trans (TUp.step _ _)).mono (by decide)
  ·exact((TUp.step t _).trans (TUp.step _ 12)).mono (by decide)
 unfold Tape.headerT
 repeat' split
 ·exact(h1.trans (TUp.step _ 4)).mono (by decide)
 ·exact(h1.trans (TUp.step _ 4)).mono (by decide)
 ·exact((h1.trans (TUp.step _ 4)).trans (TUp.step _ _)).mono (by decide)
theorem ZjW(w:WorldM)(t:Tape):TUp 10 t (w.linkT t):=by
 have h1:TUp 1 t (w.pickT t):=TUp.step _ _
 have h2:TUp 1 (w.pickT t) (w.pickT (w.pickT t)):=TUp.step _ _
 unfold WorldM.linkT
 split
 ·exact((((h1.trans h2).trans (TUp.step _ 8))).trans (TUp.step _ _)).mono (by decide)
 ·exact((h1.trans h2).trans (TUp.step _ 8)).mono (by decide)
theorem Zkv(w:WorldM)(t:Tape):(w.stepT t).l=t.l∧t.at'+1≤(w.stepT t).at'∧(w.stepT t).at'≤t.at'+20:=by
 have h0:(t.step 12).at'=t.at'+1∧(t.step 12).l=t.l:=by simp[Tape.step]
 have key:TUp 10 (t.step 12) (w.stepT t):=by
  unfold WorldM.stepT
  repeat' split
  ·exact Zg8 _ _
  ·exact ZjW _ _
  ·unfold WorldM.pinT
   split
   ·exact((TUp.step _ _).trans (TUp.step _ 2)).mono (by decide)
   ·exact(TUp.step _ _).mono (by decide)
  ·unfold WorldM.dropT
   split
   ·exact((TUp.step _ _).trans (TUp.step _ 3)).mono (by decide)
   ·exact⟨rfl,by omega,by omega⟩
  ·exact⟨rfl,by omega,by omega⟩
  ·exact(TUp.step _ _).mono (by decide)
 have a:=key.l
 have b:=key.lo
 have c:=key.hi
 exact⟨a.trans h0.2,by omega,by omega⟩
def mkS(w:WorldM)(t:Tape):Nat→WorldM×Tape
 | 0=>(w,t)
 | k+1=>((mkS w t k).1.step (mkS w t k).2,(mkS w t k).1.stepT (mkS w t k).2)
def mkB(w:WorldM)(t:Tape)(k:Nat):Bool:=decide (((mkS w t k).2.l.length:Int)≤(mkS w t k).2.at')
def mkN(w:WorldM)(t:Tape):Nat:=((List.range (2+t.l.length)).find? (mkB w t)).getD 0
def Zds(w:WorldM)(t:Tape):WorldM:=(mkS w t (mkN w t)).1
theorem Zeo(w:WorldM)(t:Tape):∀ k:Nat,(mkS w t k).2.l=t.l∧t.at'+k≤(mkS w t k).2.at'∧(mkS w t k).2.at'≤t.at'+20*k
 | 0=>by simp[mkS]
 | k+1=>by
  have ih:=Zeo w t k
  have:=Zkv (mkS w t k).1 (mkS w t k).2
  refine⟨this.1.trans ih.1, ?_, ?_⟩
  ·simp only[mkS];omega
  ·simp only[mkS];omega
theorem Z9k{w:WorldM}{n:Nat}(h:MOk w n)(t:Tape):∀ k,n+k≤1000000→MOk (mkS w t k).1 (n+k)
 | 0,_=>h
 | k+1,hk=>(Z9k h t k (by omega)).step (by omega) _
theorem ZeK(w:WorldM)(t:Tape)(ht:0≤t.at'):mkB w t (mkN w t)=true∧(∀ j,j<mkN w t→mkB w t j=false)∧mkN w t≤t.l.length+1:=by
 cases hb:(List.range (2+t.l.length)).find? (mkB w t)with
 | none =>
  exfalso
  have:=List.find?_eq_none.1 hb t.l.length (List.mem_range.2 (by omega))
  have u:=Zeo w t t.l.length
  simp only[mkB,decide_eq_true_eq,u.1]at this
  omega
 | some k =>
  obtain⟨h1,h2,h3⟩:=List.find?_range_eq_some.1 hb
  have h2:=List.mem_range.1 h2
  have e:mkN w t=k:=by rw[mkN,hb];rfl
  rw[e]
  exact⟨h1,fun j hj=>by simpa using h3 j hj,by omega⟩
def mkLA(w:WorldM)(t:Tape):Tg:=⟨tm 22 [(2,.pt 8002 0 0),(3,.pt 32012 0 0),(4,.pt 40004 0 0)],[(40004,.box 30 w.cells),(32012,t.b),(8002,.box 30 [int 0,int 0,.d (.sl 0 []),.d (.sl 0 []),int 0,int 0,.d (.sl 0 []),.d (.sl 0 [])])],60⟩
theorem ZjU(w:WorldM)(t:Tape)(n:Nat)(hm:MOk w n)(hn:n≤1000000)(ht:TOk t)(ha:t.at'≤900000)(hd:t.at'<t.l.length):CSpec Tryz.prog (rndF Tryz.f8 0) (mkLA w t).st .nrm (mkLA (w.step t) (w.stepT t)).st:=by
 exact sF [] [] (Fp 16 (@Z7t t ‹_›) (Ftb 17 (!decide ((↑t.l.length:Int)≤t.at')) (Fp 20 (@Z77 w t n ‹_› ‹_› ‹_› ‹_›) Fz)))
theorem ZmN(w:WorldM)(t:Tape)(ht:TOk t)(hd:¬ t.at'<t.l.length):CSpec Tryz.prog (rndF Tryz.f8 0) (mkLA w t).st (.ext 0) (Tg.st ⟨tm 22 [(2,.pt 8002 0 0),(4,.pt 40004 0 0)],[(40004,.box 30 w.cells),(8002,.box 30 [int 0,int 0,.d (.sl 0 []),.d (.sl 0 []),int 0,int 0,.d (.sl 0 []),.d (.sl 0 [])])],60⟩):=by
 exact sF [] [] (Fp 16 (@Z7t t ‹_›) (Ffb 17 (!decide ((↑t.l.length:Int)≤t.at')) Fz))
theorem Zm8(w:WorldM)(t:Tape)(hm:MOk w 0)(hl:t.l.length≤300)(h0:0≤t.at')(h1:t.at'≤1000):CSpec Tryz.prog (blkF Tryz.f8 0) (Tg.st ⟨tm 22 [(2,.pt 8002 0 0),(3,.pt 32012 0 0),(4,.pt 40004 0 0)],[(40004,.box 30 w.cells),(32012,t.b),(8002,.box 30 [int 0,int 0,.d (.sl 0 []),.d (.sl 0 []),int 0,int 0,.d (.sl 0 []),.d (.sl 0 [])])],60⟩) .nrm (Tg.st ⟨tm 22 [(2,.pt 8002 0 0),(4,.pt 40004 0 0)],[(40004,.box 30 (Zds w t).cells),(8002,.box 30 [int 0,int 0,.d (.sl 0 []),.d (.sl 0 []),int 0,int 0,.d (.sl 0 []),.d (.sl 0 [])])],60⟩):=by
 have hk:=ZeK w t h0
 have tok:∀ k,k≤mkN w t→TOk (mkS w t k).2∧(mkS w t k).2.at'≤900000:=fun k hk'=>by
  have u:=Zeo w t k
  refine⟨?_,by omega⟩
  unfold TOk
  rw[u.1]
  omega
 refine Z0c (S:=fun k=>(mkLA (mkS w t k).1 (mkS w t k).2).st) (mkN w t) (by kernel_rfl) (fun k hk'=>?_) ?_
 ·have hs:=hk.2.1 k hk'
  simp only[mkB,decide_eq_false_iff_not]at hs
  have m:=Z9k hm t k (by omega)
  exact ZjU _ _ (0+k) m (by omega) (tok k (by omega)).1 (tok k (by omega)).2 (by omega)
 ·have hs:=hk.1
  simp only[mkB,decide_eq_true_eq]at hs
  exact ZmN _ _ (tok _ (Nat.le_refl _)).1 (by omega)
def mkLB(w:WorldM)(t:Tape):Tg:=⟨tm 22 [(2,.pt 8002 0 0),(3,.pt 24012 0 0),(4,.pt 32004 0 0)],[(32004,.box 30 w.cells),(24012,t.b),(8002,.box 30 [int 0,int 0,.d (.sl 0 []),.d (.sl 0 []),int 0,int 0,.d (.sl 0 []),.d (.sl 0 [])])],60⟩
theorem ZjQ(w:WorldM)(t:Tape)(n:Nat)(hm:MOk w n)(hn:n≤1000000)(ht:TOk t)(ha:t.at'≤900000)(hd:t.at'<t.l.length):CSpec Tryz.prog (rndF Tryz.f8 0) (mkLB w t).st .nrm (mkLB (w.step t) (w.stepT t)).st:=by
 exact sF [] [] (Fp 16 (@Z7t t ‹_›) (Ftb 17 (!decide ((↑t.l.length:Int)≤t.at')) (Fp 20 (@Z77 w t n ‹_› ‹_› ‹_› ‹_›) Fz)))
theorem ZmL(w:WorldM)(t:Tape)(ht:TOk t)(hd:¬ t.at'<t.l.length):CSpec Tryz.prog (rndF Tryz.f8 0) (mkLB w t).st (.ext 0) (Tg.st ⟨tm 22 [(2,.pt 8002 0 0),(4,.pt 32004 0 0)],[(32004,.box 30 w.cells),(8002,.box 30 [int 0,int 0,.d (.sl 0 []),.d (.sl 0 []),int 0,int 0,.d (.sl 0 []),.d (.sl 0 [])])],60⟩):=by
 exact sF [] [] (Fp 16 (@Z7t t ‹_›) (Ffb 17 (!decide ((↑t.l.length:Int)≤t.at')) Fz))
theorem Zma(w:WorldM)(t:Tape)(hm:MOk w 0)(hl:t.l.length≤300)(h0:0≤t.at')(h1:t.at'≤1000):CSpec Tryz.prog (blkF Tryz.f8 0) (Tg.st ⟨tm 22 [(2,.pt 8002 0 0),(3,.pt 24012 0 0),(4,.pt 32004 0 0)],[(32004,.box 30 w.cells),(24012,t.b),(8002,.box 30 [int 0,int 0,.d (.sl 0 []),.d (.sl 0 []),int 0,int 0,.d (.sl 0 []),.d (.sl 0 [])])],60⟩) .nrm (Tg.st ⟨tm 22 [(2,.pt 8002 0 0),(4,.pt 32004 0 0)],[(32004,.box 30 (Zds w t).cells),(8002,.box 30 [int 0,int 0,.d (.sl 0 []),.d (.sl 0 []),int 0,int 0,.d (.sl 0 []),.d (.sl 0 [])])],60⟩):=by
 have hk:=ZeK w t h0
 have tok:∀ k,k≤mkN w t→TOk (mkS w t k).2∧(mkS w t k).2.at'≤900000:=fun k hk'=>by
  have u:=Zeo w t k
  refine⟨?_,by omega⟩
  unfold TOk
  rw[u.1]
  omega
 refine Z0c (S:=fun k=>(mkLB (mkS w t k).1 (mkS w t k).2).st) (mkN w t) (by kernel_rfl) (fun k hk'=>?_) ?_
 ·have hs:=hk.2.1 k hk'
  simp only[mkB,decide_eq_false_iff_not]at hs
  have m:=Z9k hm t k (by omega)
  exact ZjQ _ _ (0+k) m (by omega) (tok k (by omega)).1 (tok k (by omega)).2 (by omega)
 ·have hs:=hk.1
  simp only[mkB,decide_eq_true_eq]at hs
  exact ZmL _ _ (tok _ (Nat.le_refl _)).1 (by omega)
def Z3r(l:List Int):Tape:=⟨l.take 300,0⟩
def Z09(l:List Int):WorldM:=Zds (Z3r l).empty (((Z3r l).step 4).step 5)
theorem Zat(t:Tape):MOk t.empty 0:=by
 have hv:=Z2J t
 have hb:=validB_iff.1 hv
 refine⟨?_,hv, ?_, ?_, ?_, ?_, ?_, ?_,by simp[Tape.empty],by simp[Tape.empty]⟩
 ·intro x hx
  simp only[Tape.empty,Z2W,List.mem_replicate]at hx
  omega
 ·simp only[Tape.empty,Z2W,List.length_replicate];omega
 ·have:=area hv
  simp only[Tape.empty,Z2W,List.length_replicate];omega
 ·intro j hj
  simp only[Tape.empty,Z2W,List.length_replicate]at hj ⊢
  have:(List.replicate t.conf.pg.toNat (⟨0,0,0,0⟩:Page)).getD j default=⟨0,0,0,0⟩:=by simp[List.getD_eq_getElem?_getD,hj]
  rw[this];simp
 ·intro j hj
  simp only[Tape.empty,Z2W,List.length_replicate]at hj ⊢
  have:(List.replicate t.conf.pg.toNat (⟨0,0,0,0⟩:Page)).getD j default=⟨0,0,0,0⟩:=by simp[List.getD_eq_getElem?_getD,hj]
  rw[this];simp
 ·intro x hx;simp[Tape.empty]at hx
 ·intro x hx;simp[Tape.empty]at hx
theorem Z6J(l:List Int):(((Z3r l).step 4).step 5).l=l.take 300∧(((Z3r l).step 4).step 5).at'=2:=by simp[Z3r,Tape.step]
theorem ZiQ(l:List Int):MOk (Z09 l) 1000:=by
 have e:=Z6J l
 have hl:(((Z3r l).step 4).step 5).l.length≤300:=by rw[e.1];simp;omega
 have hk:=ZeK (Z3r l).empty (((Z3r l).step 4).step 5) (by omega)
 have m:=Z9k (Zat (Z3r l)) (((Z3r l).step 4).step 5) (mkN (Z3r l).empty (((Z3r l).step 4).step 5)) (by omega)
 have h2:∀ (w:WorldM) (a b:Nat),MOk w a→a≤b→MOk w b:=fun w a b h hab =>
  ⟨h.words,h.hv,h.pl,h.L,fun j hj=>by have:=h.pins j hj;omega,h.us,h.strong,h.weak,by have:=h.sl;omega,by have:=h.wl;omega⟩
 exact h2 _ _ _ m (by omega)
theorem Ze4(l:List Int)(hl:l.length≤140737488355328):GSpec Tryz.prog 8 [Z0P l] false (Z09 l).av []:=by
 have e:=Z6J l
 have he:=Zat (Z3r l)
 have h1:(((Z3r l).step 4).step 5).l.length≤300:=by rw[e.1];simp;omega
 have h2:=e.2
 by_cases h:300<l.length
 ·have ht:TOk ⟨List.take (Int.toNat 300) l,0⟩:=by simp[TOk];omega
  have e9:Z3r l=⟨List.take (Int.toNat 300) l,0⟩:=rfl
  unfold Z09
  rw[e9]at he h1 h2 ⊢
  exact gF [] Tryz.func8 [] (Fh 9 [.els (List.map idv (List.take (Int.toNat 300) l))] (Fl 6 idv l (Ftb 7 (decide (300<(↑l.length:Int))) (Fa (by(simp only[List.length_map];omega):(0:Int)≤(300:Int)∧300≤(↑(List.map idv l).length:Int)) (Fa (by simp[List.map_take,List.map_drop,List.map_set,List.map_append,wdv,idv]:List.take (Int.toNat 300) (List.map idv l)=List.map idv (List.take (Int.toNat 300) l)) (Fp 14 (@ZcP (Tape.mk (List.take (Int.toNat 300) l) 0) ‹_› (by(simp only[bs];omega))) (Fu (@Zm8 ((Tape.mk (List.take (Int.toNat 300) l) 0).empty) (((Tape.mk (List.take (Int.toNat 300) l) 0).step 4).step 5) ‹_› ‹_› (by omega) (by omega)) Fz)))))))
 ·have ht:TOk ⟨l,0⟩:=by simp[TOk];omega
  have e9:Z3r l=⟨l,0⟩:=by rw[Z3r,List.take_of_length_le (by omega)]
  unfold Z09
  rw[e9]at he h1 h2 ⊢
  exact gF [] Tryz.func8 [] (Fl 6 idv l (Ffb 7 (decide (300<(↑l.length:Int))) (Fp 14 (@ZcP (Tape.mk l 0) ‹_› (by(simp only[bs];omega))) (Fu (@Zma ((Tape.mk l 0).empty) (((Tape.mk l 0).step 4).step 5) ‹_› ‹_› (by omega) (by omega)) Fz))))
def hAwake9:Heap:=(⟨⟨16,8⟩,List.replicate 128 0,List.replicate 8 ⟨0,0,0,0⟩,0,-1⟩:Heap)
theorem ZaO:WOk hAwake9.words∧Z0t hAwake9=⟨0,0,0⟩∧Z0t noHeap=⟨1,0,0⟩:=by
 refine⟨?_, ?_, ?_⟩
 ·unfold WOk hAwake9
  decide+kernel
 ·decide+kernel
 ·decide+kernel
theorem ZnD:GSpec Tryz.prog 27 [(⟨⟨16,8⟩,List.replicate 128 0,List.replicate 8 ⟨0,0,0,0⟩,0,-1⟩:Heap).av] true (bool true) []:=by
 obtain⟨f1,f2,f3⟩:=ZaO
 have:=Zit hAwake9 f1
 rw[f2]at this
 exact this
theorem Zi6{ρ:Rho}{w:World}{Im:Nat→Prop}{v:Value}(s:Nat)(h:Rel ρ w Im (.d (.sl 0 [])) v):Rel ρ w Im (.d (.sl s [])) v:=by
 cases h with
 | d h =>
  cases h with
  | slNil=>exact .d (.slNil _ _ _)
  | sl _ _ p n c f hn=>cases hn;exact .d (.slNil _ _ _)
theorem ZiB:GSpec Tryz.prog 26 [.ag [int 0,int 0,.d (.sl 0 []),.d (.sl 0 []),int 0,int 0]] true (Finding.av ⟨1,0,0⟩) []:=by
 intro w Im vs hIm hsz h
 refine Z6q noHeap (by intro x hx;simp[noHeap]at hx) (by decide+kernel) w Im vs hIm hsz (fun i x v hx hv=>?_)
 rcases i with _ | i
 ·cases hx
  obtain⟨cs,rfl,h2,h3,h4⟩:=Z3e (h 0 _ v rfl hv)
  refine .ag _ _ h2 h3 (fun i a u ha hu=>?_)
  rcases i with _ | _ | _ | _ | _ | _ | i
  ·cases ha;exact h4 0 _ u rfl hu
  ·cases ha;exact h4 1 _ u rfl hu
  ·cases ha;exact Zi6 1 (h4 2 _ u rfl hu)
  ·cases ha;exact Zi6 4 (h4 3 _ u rfl hu)
  ·cases ha;exact h4 4 _ u rfl hu
  ·cases ha;exact h4 5 _ u rfl hu
  ·cases (show(none:Option AV)=some a from ha)
 ·simp at hx
theorem ZcQ:GSpec Tryz.prog 24 [] true (bool true) []:=by
 exact gF [] Tryz.func24 [] (Fc 5 (@ZkL) (Fc 9 (@ZnD) (FcG 12 true (fun hg=>by(try simp only[bs]at hg);exact @ZiB) Fz)))
def pgOf(w:Work)(x:Int):Page:=w.heap.pages.getD (ofA w.heap.conf x).1.toNat default
structure Rt (w:Work):Prop where
 q:∀ x∈w.queue,((pgOf w x).kind=1∨(pgOf w x).kind=2)∧(pgOf w x).space=1-w.heap.space
 t:∀ x∈w.old,(Z0o (loadA w.heap.words x).1).2=true→(Z0o (loadA w.heap.words x).1).1∈w.queue
theorem Z9g{a:Int}(h0:0≤a)(h1:a<4294967296):Z0o (4*a+2)=(a,true):=by
 have e:(4*a+2)/4=a:=by omega
 rw[Z0o,if_pos (by omega),e]
theorem Rt.copy{B:Int}{w:Work}(hw:WkOk w)(h:Inv w)(hT:Tab B w)(hR:Rt w){r n:Int}(hr:r∈w.old)(hq:r∉w.queue)(hn:n=hlA w.heap.words r+1)(hp:n≤w.heap.conf.pw)(hc:(w.place n).2.2=true):Rt ((w.place n).1.copy r (w.place n).2.1 n):=by
 have hlr:=Z0i w.heap.words r
 obtain⟨i,p,t,h1,h2,h3,h4,h5,h6,h7,h8,e⟩:=Z55 hw ⟨by omega,hp⟩ hc
 have hsp:p.space=1-w.heap.space:=by
  by_cases hf:Z4x w n
  ·have e7:w.place n=(⟨⟨w.heap.conf,w.heap.words,Z24 w.heap.pages (Z0Y w).toNat n,w.heap.space,w.heap.bump⟩,w.old,w.taken,w.queue,w.scanned,w.rep⟩,4096+Z0Y w*w.heap.conf.pw+(w.heap.pages.getD (Z0Y w).toNat default).used,true):=by rw[Work.place,if_pos hf]
   unfold Z4x at hf
   have hm:=hw.tk _ (Z1w hf.1)
   have ht:=hT.tk _ (Z1w hf.1)
   have hi:(Z0Y w).toNat<w.heap.pages.length:=by omega
   rw[e7]at e
   simp only[Z3C,Work.mk.injEq,Heap.mk.injEq]at e
   have e2:=e.1.2.2.1
   have g1:(w.heap.pages.set i p).getD i default=p:=by rw[Z0p h1,if_pos rfl]
   rw[← e2,Z0p hi]at g1
   split at g1
   ·rw[← g1];exact ht
   ·rename_i hne
    have g2:(w.heap.pages.set i p).getD (Z0Y w).toNat default=w.heap.pages.getD (Z0Y w).toNat default:=by rw[Z0p h1,if_neg (fun q=>hne q.symm)]
    rw[← e2,Z0p hi,if_pos rfl]at g2
    have:=congrArg Page.used g2
    simp only at this
    omega
  ·by_cases hg:0≤Z0w w
   ·have e7:w.place n=(⟨⟨w.heap.conf,w.heap.words,Z24 (Z2F w) (Z0w w).toNat n,w.heap.space,w.heap.bump⟩,w.old,w.taken++[Z0w w],w.queue,w.scanned,w.rep⟩,4096+Z0w w*w.heap.conf.pw,true):=by rw[Work.place,if_neg hf,if_pos hg]
    obtain⟨g1,g2,g3⟩:=Z3l (h:=⟨w.heap.conf,w.heap.words,w.heap.pages,1-w.heap.space,w.heap.bump⟩) (by have:=hw.sp;simp only;omega) hg n
    have g1':Z24 (Z2F w) (Z0w w).toNat n=w.heap.pages.set (Z0w w).toNat ⟨1,1-w.heap.space,n,0⟩:=g1
    have g2':(w.heap.pages.getD (Z0w w).toNat default).kind=0:=g2
    have g3':(Z0w w).toNat<w.heap.pages.length:=g3
    rw[e7,g1']at e
    simp only[Work.mk.injEq,Heap.mk.injEq]at e
    have e2:=e.1.2.2.1
    have k1:(w.heap.pages.set i p).getD i default=p:=by rw[Z0p h1,if_pos rfl]
    rw[← e2,Z0p g3']at k1
    split at k1
    ·rw[← k1]
    ·rename_i hne
     have k2:(w.heap.pages.set i p).getD (Z0w w).toNat default=w.heap.pages.getD (Z0w w).toNat default:=by rw[Z0p h1,if_neg (fun q=>hne q.symm)]
     rw[← e2,Z0p g3',if_pos rfl]at k2
     rw[← k2]at g2'
     simp at g2'
   ·rw[Work.place,if_neg hf,if_neg hg]at hc
    simp at hc
 have hb:=validB_iff.1 hw.conf
 have hpl:=hw.pl
 have hL:=h.L
 have hio:(i:Int)*w.heap.conf.pw+w.heap.conf.pw≤w.heap.conf.pw*w.heap.conf.pg:=by
  have:=Z0W (i:=i) (j:=w.heap.conf.pg) (pw:=w.heap.conf.pw) (by omega) (by omega)
  rw[Int.mul_comm w.heap.conf.pw];exact this
 have hi0:0≤(i:Int)*w.heap.conf.pw:=Int.mul_nonneg (by omega) (by omega)
 have har:=area hw.conf
 rw[e,h8]
 generalize hu:occP (w.heap.pages.getD i default)=u at *
 have hof:(ofA w.heap.conf (4096+(i:Int)*w.heap.conf.pw+u)).1.toNat=i:=by
  have:=Z8j (c:=w.heap.conf) (i:=i) (o:=u) hw.conf (by omega) (by omega)
  rw[show 4096+(i:Int)*w.heap.conf.pw+u=4096+((i:Int)*w.heap.conf.pw+u) by omega,this]
  simp
 generalize ha:4096+(i:Int)*w.heap.conf.pw+u=at' at *
 have hrr:=h.r r (List.mem_append_left _ hr)
 have hf:=h.f i h1 (by rcases h2 with h2 | h2;exact Or.inl h2;exact Or.inr h2.1)
 rw[hu]at hf
 obtain⟨m1,m2,m3⟩:=Z7B (ws:=w.heap.words) (a:=at') (b:=r) (n:=n) (by omega) (by omega) (by omega)
 have hsr:4096≤r∧r<4096+(moveA w.heap.words at' r n).1.length:=by omega
 refine⟨?_, ?_⟩
 ·intro x hx
  simp only[Work.copy,List.mem_append,List.mem_singleton]at hx
  simp only[pgOf,Work.copy]
  rw[Z0p h1]
  split
  ·exact⟨Or.inl h3,hsp⟩
  ·rename_i hne
   rcases hx with hx | rfl
   ·exact hR.q x hx
   ·exact absurd hof.symm hne
 ·intro x hx ht
  simp only[Work.copy]at hx ht ⊢
  by_cases hxr:x=r
  ·subst hxr
   rw[Z2B hsr]at ht ⊢
   simp only
   rw[Z9g (by omega) (by omega)]
   simp
  ·have hfx:=hf x (List.mem_append_left _ hx)
   have hlx:=Z0i w.heap.words x
   have el:loadA (Z0H (moveA w.heap.words at' r n).1 r (4*at'+2)).1 x=loadA w.heap.words x:=by rw[Z0F hsr hxr,m3 x (by omega)]
   rw[el]at ht ⊢
   exact List.mem_append_left _ (hR.t x hx ht)
structure PR (B:Int) (w:Work):Prop where
 tab:Tab B w
 rt:Rt w
def ToOk(w:Work)(x:Int):Prop:=x=0∨x∈w.queue
theorem ZkR{B:Int}(w:Work)(r:Int)(hp:PR B w)(e:(w.fwd r).2.2=0):ToOk (w.fwd r).1 (w.fwd r).2.1:=by
 unfold Work.fwd at e ⊢
 split at e
 ·rename_i c1
  rw[if_pos c1]
  exact c1
 ·rename_i c1
  rw[if_neg c1]
  split at e
  ·simp at e
  ·rename_i c2
   rw[if_neg c2]
   have c2':r∈w.old:=Decidable.not_not.1 c2
   split at e
   ·rename_i c3
    rw[if_pos c3]
    exact Or.inr (hp.rt.t r c2' c3)
   ·rename_i c3
    rw[if_neg c3]
    split at e
    ·simp at e
    ·rename_i c4
     rw[if_neg c4]
     split at e
     ·rename_i c5
      rw[if_pos c5]
      exact Or.inr (List.mem_append_right _ (by simp))
     ·rename_i c5
      rw[if_neg c5]
      split at e
      ·rename_i c6
       rw[if_pos c6]
       exact Or.inr (List.mem_append_right _ (by simp))
      ·rename_i c6
       rw[if_neg c6]
       split at e
       ·simp at e
       ·rename_i c7
        rw[if_neg c7]
        exact Or.inr (List.mem_append_right _ (by simp))
theorem PR.fwd{B:Int}(hB:0≤B)(w:Work)(r:Int)(hw:WkOk w)(hi:Inv w)(h:PR B w)(e:(w.fwd r).2.2=0):PR B (w.fwd r).1:=by
 refine⟨h.tab.fwd hB w r hw hi e, ?_⟩
 have hR:=h.rt
 have hsp:=hw.sp
 unfold Work.fwd at e ⊢
 split at e
 ·rename_i c1
  rw[if_pos c1]
  exact hR
 ·rename_i c1
  rw[if_neg c1]
  have c1':r∉w.queue:=fun h=>c1 (Or.inr h)
  split at e
  ·simp at e
  ·rename_i c2
   rw[if_neg c2]
   have c2':r∈w.old:=Decidable.not_not.1 c2
   split at e
   ·rename_i c3
    rw[if_pos c3]
    exact hR
   ·rename_i c3
    rw[if_neg c3]
    split at e
    ·simp at e
    ·rename_i c4
     rw[if_neg c4]
     have o:=Z3F hw.conf (Decidable.not_not.1 c4)
     have hpl:=hw.pl
     split at e
     ·rename_i c5
      rw[if_pos c5]
      simp only[Z1j,decide_eq_true_eq]at c5
      have ok:=h.tab.pt.b (ofA w.heap.conf r).1.toNat (by omega)
      have oks:=ok.s
      refine⟨?_,fun x hx ht=>List.mem_append_left _ (hR.t x hx ht)⟩
      intro x hx
      simp only[Work.keep,List.mem_append,List.mem_singleton]at hx
      rcases hx with hx | rfl
      ·exact hR.q x hx
      ·refine⟨Or.inl c5.2.2.1, ?_⟩
       simp only[pgOf,Work.keep]
       omega
     ·rename_i c5
      rw[if_neg c5]
      split at e
      ·rename_i c6
       rw[if_pos c6]
       refine⟨?_,fun x hx ht=>List.mem_append_left _ (hR.t x hx ht)⟩
       have hlr:(ofA w.heap.conf r).1.toNat<w.heap.pages.length:=by omega
       intro x hx
       simp only[Work.keep,List.mem_append,List.mem_singleton]at hx
       have hxl:(ofA w.heap.conf x).1.toNat<w.heap.pages.length:=by
        rcases hx with hx | rfl
        ·by_cases q:(ofA w.heap.conf x).1.toNat<w.heap.pages.length
         ·exact q
         ·have:=(hR.q x hx).1
          rw[pgOf,List.getD_eq_getElem?_getD,List.getElem?_eq_none (by omega)]at this
          simp only[Option.getD_none]at this
          have d:(default:Page).kind=0:=rfl
          omega
        ·exact hlr
       simp only[pgOf,Work.keep,Work.flip]
       rw[Z1x hxl]
       split
       ·refine⟨?_,rfl⟩
        rcases hx with hx | rfl
        ·exact(hR.q x hx).1
        ·exact Or.inr c6
       ·rename_i hne
        rcases hx with hx | rfl
        ·exact hR.q x hx
        ·exact absurd ⟨Nat.le_refl _,Nat.le_add_right _ _⟩ hne
      ·rename_i c6
       rw[if_neg c6]
       split at e
       ·simp at e
       ·rename_i c7
        rw[if_neg c7]
        have c7':(w.place (sizeH (hdW w r))).2.2=true:=by simpa using c7
        have hz:=hi.z r c2'
        have hp:sizeH (hdW w r)≤w.heap.conf.pw:=by
         rw[Z3v]
         rcases hz with hz | hz
         ·exact absurd hz c6
         ·exact hz
        exact hR.copy hw hi h.tab c2' c1' (Z3v w r) hp c7'
theorem PR.in1{B:Int}(hB:0≤B)(w:Work)(q j:Int)(hw:WkOk w)(hi:Inv w)(h:PR B w)(hq:q∈w.queue)(h0:0≤j)(h1:j<hlA w.heap.words q)(e:(w.fwd (loadA w.heap.words (q+1+j)).1).2.2=0):PR B (w.in1 (q+1+j)):=by
 have hf:=PR.fwd hB w _ hw hi h e
 obtain⟨i1,x1⟩:=Z6E hw hi _ e
 have hq1:=x1.q q hq
 have hl1:=x1.l q hq
 have hr:=i1.r q (List.mem_append_right _ hq1)
 have hs:=i1.s q (List.mem_append_right _ hq1)
 have hin:4096≤q+1+j∧q+1+j<4096+(w.fwd (loadA w.heap.words (q+1+j)).1).1.heap.words.length:=by omega
 refine⟨hf.tab.withWords _,hf.rt.q,fun x hx ht=>?_⟩
 have el:loadA (Z0H (w.fwd (loadA w.heap.words (q+1+j)).1).1.heap.words (q+1+j) (w.fwd (loadA w.heap.words (q+1+j)).1).2.1).1 x=loadA (w.fwd (loadA w.heap.words (q+1+j)).1).1.heap.words x:=by
  refine Z0F hin fun hc=>?_
  have:=hs x (List.mem_append_left _ hx) (by omega)
  omega
 simp only[Work.in1]at hx ht ⊢
 rw[el]at ht ⊢
 exact hf.rt.t x hx ht
theorem Z7y{h:Heap}(hp:Z02 h=true):Rt (beginW h):=by
 refine⟨by simp[beginW],fun x hx ht=>?_⟩
 exfalso
 simp only[beginW]at hx ht
 obtain⟨j,j1,o⟩:=(Z8q hp).1 x hx
 have e:=o.at'
 have k:=Zcq e
 unfold atH at e
 rw[if_pos k.1,if_pos k.2.1]at e
 split at e
 ·rename_i g
  have hd:=g.2.2
  unfold decodeH at hd
  split at hd
  ·rename_i c
   have c1:=c.1
   have c2:=c.2
   unfold Z0b at c1 c2
   split at c2
   ·unfold Z0o at ht
    split at ht
    ·simp only at c2;omega
    ·simp at ht
   ·rename_i hv;rw[if_neg hv]at c1;simp at c1
  ·simp at hd
 ·simp at e
theorem ZkP{B:Int}(hB:0≤B){h:Heap}{s:List Int}(hw:WOk h.words)(hp:Z02 h=true)(hb:∀ p∈h.pages,p.pins≤B)(e:(rootsF (beginW h) s).2.2=0)(e2:(allF (rootsF (beginW h) s).1).2=0):PR B (cW2 h s) :=
 ZlZ (PR B) (fun w r hw hi h e=>PR.fwd hB w r hw hi h e) (fun w q j hw hi h hq h0 h1 e=>PR.in1 hB w q j hw hi h hq h0 h1 e) (fun w n h=>⟨⟨h.tab.pt,h.tab.tk,h.tab.pin⟩,h.rt.q,h.rt.t⟩) hw hp ⟨Z4A hp hb,Z7y hp⟩ e e2
theorem Z8R{B:Int}(hB:0≤B){w:Work}{roots:List Int}(hw:WkOk w)(h:Inv w)(hp:PR B w):∀ k,(∀ j,j<k→Z2e w roots j=0)→∀ x∈(Z1r w roots k).2,ToOk (Z1r w roots k).1 x
 | 0,_,x,hx=>by simp[Z1r]at hx
 | k+1,hh,x,hx=>by
  have ih:=Z8R hB (roots:=roots) hw h hp k (fun j hj=>hh j (by omega))
  have ok:=(Z36 (roots:=roots) hw k (fun j hj=>hh j (by omega))).1
  have iv:=(Z52 (roots:=roots) hw h k (fun j hj=>hh j (by omega))).1
  have pr:=ZaK (PR B) (fun w r hw hi h e=>PR.fwd hB w r hw hi h e) (roots:=roots) hw h hp k (fun j hj=>hh j (by omega))
  have he:=hh k (by omega)
  simp only[Z1r,List.mem_append,List.mem_singleton]at hx ⊢
  rcases hx with hx | rfl
  ·rcases ih x hx with q | q
   ·exact Or.inl q
   ·exact Or.inr ((Z6E ok iv _ he).2.q x q)
  ·exact ZkR _ _ pr he
def RootOn(h:Heap)(r:Int):Prop:=(ofA h.conf r).2.2=0→(h.pages.getD (ofA h.conf r).1.toNat default).kind=1∨(h.pages.getD (ofA h.conf r).1.toNat default).kind=2
structure POk (w:WorldM):Prop where
 p:Z02 w.heap=true
 s:∀ r∈w.strong,RootOn w.heap r
 k:∀ r∈w.weak,RootOn w.heap r
theorem ZmE(h:Heap):RootOn h 0:=by
 intro e
 exfalso
 unfold ofA at e
 split at e
 ·split at e
  ·omega
  ·simp at e
 ·simp at e
theorem Zd3{h:Heap}{n:Int}(hp:Z02 h=true)(hn:1≤n∧n≤h.conf.pw)(e:(Z0d h n).2.2=true):(∀ j:Nat,(h.pages.getD j default).kind≠0→((Z0d h n).1.pages.getD j default).kind=(h.pages.getD j default).kind)∧RootOn (Z0d h n).1 (Z0d h n).2.1:=by
 have hp':=hp
 rw[Z1g]at hp
 obtain⟨p1,p2,p3,p4,p5,p6⟩:=hp
 have hb:=validB_iff.1 p1
 by_cases hf:Z6r h n
 ·have e7:Z0d h n=(⟨h.conf,h.words,Z24 h.pages h.bump.toNat n,h.space,h.bump⟩,4096+h.bump*h.conf.pw+(h.pages.getD h.bump.toNat default).used,true):=by rw[Z0d,if_pos hf]
  unfold Z6r at hf
  have hbi:h.bump.toNat<h.pages.length:=by omega
  have hk:(h.pages.getD h.bump.toNat default).kind=1:=by omega
  have u:=(p6.b h.bump.toNat hbi).k1 hk
  rw[e7]
  refine⟨fun j hj=>?_,fun _=>?_⟩
  ·simp only[Z3C]
   rw[Z0p hbi]
   split
   ·rename_i q;subst q;rfl
   ·rfl
  ·have:=Z8j (c:=h.conf) (i:=h.bump) (o:=(h.pages.getD h.bump.toNat default).used) p1 (by omega) (by omega)
   simp only[Z3C]
   rw[show 4096+h.bump*h.conf.pw+(h.pages.getD h.bump.toNat default).used=4096+(h.bump*h.conf.pw+(h.pages.getD h.bump.toNat default).used) by omega,this]
   simp only
   rw[Z0p hbi,if_pos rfl]
   exact Or.inl hk
 ·by_cases hg:0≤first h.pages 1∧(Z1P h.pages:Int)<Z26 h.conf
  ·have e7:Z0d h n=(⟨h.conf,h.words,Z24 (Z2K h) (first h.pages 1).toNat n,h.space,first h.pages 1⟩,4096+first h.pages 1*h.conf.pw+((Z2K h).getD (first h.pages 1).toNat default).used,true):=by rw[Z0d,if_neg hf,if_pos hg]
   obtain⟨g1,g2,g3⟩:=Z3l p4 hg.1 n
   have g4:=congrArg Page.used (Z2H p4 hg.1).2.2.2
   simp only at g4
   rw[e7,g1,g4]
   refine⟨fun j hj=>?_,fun _=>?_⟩
   ·simp only
    rw[Z0p g3]
    split
    ·rename_i q;subst q;exact absurd g2 hj
    ·rfl
   ·have:=Z8j (c:=h.conf) (i:=first h.pages 1) (o:=0) p1 (by omega) (by omega)
    simp only
    rw[show 4096+first h.pages 1*h.conf.pw+0=4096+(first h.pages 1*h.conf.pw+0) by omega,this]
    simp only
    rw[Z0p g3,if_pos rfl]
    exact Or.inl rfl
  ·rw[Z0d,if_neg hf,if_neg hg]at e
   simp at e
theorem ZdF{h:Heap}{n:Int}(hp:Z02 h=true)(hk:1≤need h.conf n)(e:(Z0m h n (need h.conf n)).2.2=true):(∀ j:Nat,(h.pages.getD j default).kind≠0→((Z0m h n (need h.conf n)).1.pages.getD j default).kind=(h.pages.getD j default).kind)∧RootOn (Z0m h n (need h.conf n)).1 (Z0m h n (need h.conf n)).2.1:=by
 have hp':=hp
 rw[Z1g]at hp
 obtain⟨p1,p2,p3,p4,p5,p6⟩:=hp
 have hb:=validB_iff.1 p1
 by_cases hg:0≤first h.pages (need h.conf n)∧Z1P h.pages+need h.conf n≤Z26 h.conf
 ·obtain⟨g1,g2,g3⟩:=Z1C hg.1
  have el:(Z2d h.conf h.pages (first h.pages (need h.conf n)) h.space n).1=tookP h.pages (first h.pages (need h.conf n)).toNat (need h.conf n).toNat ⟨2,h.space,n,0⟩ ⟨3,h.space,0,0⟩:=by
   rw[Z2d,if_pos ⟨hk,by omega⟩,Z2n,if_pos (by omega),if_pos g3]
  have e7:Z0m h n (need h.conf n)=(⟨h.conf,h.words,tookP h.pages (first h.pages (need h.conf n)).toNat (need h.conf n).toNat ⟨2,h.space,n,0⟩ ⟨3,h.space,0,0⟩,h.space,h.bump⟩,4096+first h.pages (need h.conf n)*h.conf.pw,true):=by rw[Z0m,if_pos hg,el]
  have hf:∀ j,j<(need h.conf n).toNat→(h.pages.getD ((first h.pages (need h.conf n)).toNat+j) default).kind=0:=freeK_iff.1 g3
  have hgt:=Z6h (l:=h.pages) (i:=(first h.pages (need h.conf n)).toNat) (k:=(need h.conf n).toNat) (p:=⟨2,h.space,n,0⟩) (q:=⟨3,h.space,0,0⟩) (by omega) (by omega)
  rw[e7]
  refine⟨fun j hj=>?_,fun _=>?_⟩
  ·simp only
   have hne:¬ ((first h.pages (need h.conf n)).toNat≤j∧j<(first h.pages (need h.conf n)).toNat+(need h.conf n).toNat):=fun hc=>by
    have:=hf (j-(first h.pages (need h.conf n)).toNat) (by omega)
    rw[show(first h.pages (need h.conf n)).toNat+(j-(first h.pages (need h.conf n)).toNat)=j by omega]at this
    exact hj this
   rw[hgt,if_neg (by omega),if_neg (by omega)]
  ·have:=Z8j (c:=h.conf) (i:=first h.pages (need h.conf n)) (o:=0) p1 (by omega) (by omega)
   simp only
   rw[show 4096+first h.pages (need h.conf n)*h.conf.pw=4096+(first h.pages (need h.conf n)*h.conf.pw+0) by omega,this]
   simp only
   rw[hgt,if_pos rfl]
   exact Or.inr rfl
 ·rw[Z0m,if_neg hg]at e
  simp at e
theorem RootOn.mono{h h':Heap}{r:Int}(hr:RootOn h r)(hc:h'.conf=h.conf)(hk:∀ j:Nat,(h.pages.getD j default).kind≠0→(h'.pages.getD j default).kind=(h.pages.getD j default).kind):RootOn h' r:=by
 intro e
 rw[hc]at e ⊢
 have q:=hr e
 rw[hk _ (by omega)]
 exact q
theorem ZfO{c:Conf}{hd:Header}(ha:Z2Q c hd=true)(hv:Z05 c=true)(hn:¬ 0<need c (sizeH hd)):sizeH hd≤c.pw:=by
 obtain⟨a1,a2,a3,a4,a5⟩:=Z4Z ha
 have hb:=validB_iff.1 hv
 unfold need at hn a4
 split at a4
 ·rename_i hc
  rw[if_pos hc]at hn
  split at a4
  ·omega
  ·rename_i hd'
   rw[if_neg hd']at hn
   have e:=Int.mul_ediv_add_emod (sizeH hd+c.pw-1) c.pw
   have hz:(sizeH hd+c.pw-1)/c.pw=0:=by omega
   rw[hz]at e
   have:=Int.emod_lt_of_pos (sizeH hd+c.pw-1) (b:=c.pw) (by omega)
   omega
 ·omega
theorem POk.put{w:WorldM}(h:POk w)(hw:WOk w.heap.words){hd:Header}(hm:0≤hd.map∧hd.map≤4294967295):POk (w.put hd):=by
 unfold WorldM.put
 split
 ·rename_i e
  obtain⟨k1,k2,k3,k4,k5,k6,k7,k8⟩:=Zdw hw hm e
  have hv:=(Z07 k1).1
  obtain⟨a1,a2,a3,a4,a5⟩:=Z4Z k2
  have kk:(∀ j:Nat,(w.heap.pages.getD j default).kind≠0→((put7 w.heap hd).1.pages.getD j default).kind=(w.heap.pages.getD j default).kind)∧RootOn (put7 w.heap hd).1 (put7 w.heap hd).2.1:=by
   by_cases hn:0<need w.heap.conf (sizeH hd)
   ·have e7:put7 w.heap hd=Z0m w.heap (sizeH hd) (need w.heap.conf (sizeH hd)):=by rw[put7,if_pos hn]
    rw[e7]at k4 ⊢
    exact ZdF k1 (by omega) k4
   ·have e7:put7 w.heap hd=Z0d w.heap (sizeH hd):=by rw[put7,if_neg hn]
    rw[e7]at k4 ⊢
    exact Zd3 k1 ⟨a2,ZfO k2 hv hn⟩ k4
  have hc:(new7 w.heap hd).1.conf=w.heap.conf:=by rw[k6];exact k3.c
  have hk:∀ j:Nat,(w.heap.pages.getD j default).kind≠0→((new7 w.heap hd).1.pages.getD j default).kind=(w.heap.pages.getD j default).kind:=by rw[k6];exact kk.1
  refine⟨k7,fun r hr=>?_,fun r hr=>(h.k r hr).mono hc hk⟩
  rcases List.mem_append.1 hr with hr | hr
  ·exact(h.s r hr).mono hc hk
  ·simp only[List.mem_singleton]at hr
   subst hr
   rw[k5,k6]
   exact kk.2
 ·exact h
theorem POk.link{w:WorldM}{n:Nat}(h:POk w)(hm:MOk w n)(hn:n≤1000000)(t:Tape):POk (w.link t):=by
 unfold WorldM.link
 split
 ·rename_i hc
  have hw:=hm.wm hn
  have g:=Z3P hc.1
  have n1:=Z0J (w.pickT (w.pickT t)) (n:=8) (by decide)
  have hi:0≤Z1J w t∧Z1J w t<(getH w.heap (w.pick t)).1.length:=by
   unfold Z1J
   rw[Int.tmod_eq_emod_of_nonneg n1.1]
   exact⟨Int.emod_nonneg _ (by omega),Int.emod_lt_of_pos _ (by omega)⟩
  have hv:0≤Z1N w t∧Z1N w t≤18446744073709551615:=by
   unfold Z1N
   split
   ·exact Z2V hw _
   ·have:=Z0J ((w.pickT (w.pickT t)).step 8) (n:=1048576) (by decide)
    omega
  obtain⟨s1,s2,s3⟩:=Z5G hm.words hv hc.1 hi
  refine⟨s2,fun r hr=>?_,fun r hr=>?_⟩
  ·simp only
   rw[s1]
   exact h.s r hr
  ·simp only
   rw[s1]
   exact h.k r hr
 ·exact h
theorem PT.setPins{c:Conf}{l:List Page}(h:PT c l){i:Nat}(hi:i<l.length)(hk:(l.getD i default).kind=1∨(l.getD i default).kind=2){n:Int}(hn:0≤n∧n≤2147483647):PT c (l.set i ⟨(l.getD i default).kind,(l.getD i default).space,(l.getD i default).used,n⟩):=by
 have e:∀ j,((l.set i ⟨(l.getD i default).kind,(l.getD i default).space,(l.getD i default).used,n⟩).getD j default).kind=(l.getD j default).kind∧((l.set i ⟨(l.getD i default).kind,(l.getD i default).space,(l.getD i default).used,n⟩).getD j default).space=(l.getD j default).space∧((l.set i ⟨(l.getD i default).kind,(l.getD i default).space,(l.getD i default).used,n⟩).getD j default).used=(l.getD j default).used:=by
  intro j
  rw[Z0p hi]
  split
  ·rename_i q;subst q;exact⟨rfl,rfl,rfl⟩
  ·exact⟨rfl,rfl,rfl⟩
 refine⟨?_, ?_, ?_⟩
 ·intro j hj
  rw[List.length_set]at hj
  rw[Z0p hi]
  split
  ·have b:=h.b i hi
   exact⟨b.s,hn,b.k,fun q=>by simp only at q;omega,b.k1,fun q=>by simp only at q;omega⟩
  ·exact h.b j hj
 ·intro j hj hk2
  rw[List.length_set]at hj
  rw[(e j).1]at hk2
  rw[(e j).2.2,(e j).2.1]
  have q:=h.lg j hj hk2
  refine⟨q.1,fun m h1 h2=>?_⟩
  rw[List.length_set,(e _).1,(e _).2.1]
  exact q.2 m h1 h2
 ·intro j hj hk3
  rw[List.length_set]at hj
  rw[(e j).1]at hk3
  obtain⟨a,a1,a2,a3⟩:=h.tl j hj hk3
  exact⟨a,a1,by rw[(e a).1];exact a2,by rw[(e a).2.2];exact a3⟩
theorem ZeI{w:WorldM}{n:Nat}(h:POk w)(hm:MOk w n)(hn:n≤1000000){i:Nat}(hi:i<w.heap.pages.length)(hk:(w.heap.pages.getD i default).kind=1∨(w.heap.pages.getD i default).kind=2){d:Int}(hd:d=1∨(d=-1∧0<(w.heap.pages.getD i default).pins)):POk (pinB w i d):=by
 have hp:=hm.pins i hi
 have kk:∀ j:Nat,((pinB w i d).heap.pages.getD j default).kind=(w.heap.pages.getD j default).kind:=by
  intro j
  simp only[pinB]
  rw[Z0p hi]
  split
  ·rename_i q;subst q;rfl
  ·rfl
 have pr:=h.p
 rw[Z1g]at pr
 obtain⟨p1,p2,p3,p4,p5,p6⟩:=pr
 refine⟨?_,fun r hr=>(h.s r hr).mono rfl (fun j _=>kk j),fun r hr=>(h.k r hr).mono rfl (fun j _=>kk j)⟩
 rw[Z1g]
 refine⟨p1,p2,by simp only[pinB,List.length_set];exact p3,p4, ?_,p6.setPins hi hk (by omega)⟩
 rcases p5 with p5 | p5
 ·exact Or.inl p5
 ·refine Or.inr ⟨p5.1,by simp only[pinB,List.length_set];exact p5.2.1, ?_⟩
  rw[show(pinB w i d).heap.bump=w.heap.bump from rfl,kk]
  exact p5.2.2
theorem Zfc(w:WorldM)(t:Tape):w.pick t=0∨w.pick t∈w.strong∨w.pick t∈w.weak:=by
 have hn:=Z0J t (n:=(w.refs.length:Int)) (by simp[WorldM.refs];omega)
 have:w.pick t∈w.refs:=getD_mem_iff.2 ⟨_,by omega,rfl⟩
 simpa[WorldM.refs]using this
theorem POk.pick{w:WorldM}(h:POk w)(t:Tape):RootOn w.heap (w.pick t):=by
 rcases Zfc w t with e | e | e
 ·rw[e];exact ZmE _
 ·exact h.s _ e
 ·exact h.k _ e
theorem POk.pin{w:WorldM}{n:Nat}(h:POk w)(hm:MOk w n)(hn:n≤1000000)(t:Tape):POk (w.pin t):=by
 unfold WorldM.pin
 split
 ·rename_i e
  have o:=Z3F hm.hv e
  have hpl:=hm.pl
  have hi:pinI w t<w.heap.pages.length:=by unfold pinI;omega
  have hk:=h.pick t e
  split
  ·rename_i hc
   exact ZeI h hm hn hi hk (Or.inr ⟨rfl,hc.1⟩)
  ·split
   ·exact ZeI h hm hn hi hk (Or.inl rfl)
   ·exact h
 ·exact h
theorem POk.drop{w:WorldM}(h:POk w)(t:Tape):POk (w.drop t):=by
 unfold WorldM.drop
 split
 ·rename_i hl
  have n1:=Z0J t (n:=(w.strong.length:Int)) (by omega)
  refine⟨h.p,fun r hr=>?_,fun r hr=>?_⟩
  ·rcases List.mem_append.1 hr with hr | hr
   ·exact h.s r (List.mem_of_mem_take hr)
   ·exact h.s r (List.mem_of_mem_drop hr)
  ·simp only at hr
   split at hr
   ·rcases List.mem_append.1 hr with hr | hr
    ·exact h.k r hr
    ·simp only[List.mem_singleton]at hr
     subst hr
     refine h.s _ (getD_mem_iff.2 ⟨_, ?_,rfl⟩)
     unfold Zhj
     omega
   ·exact h.k r hr
 ·exact h
theorem POk.collect{w:WorldM}{n:Nat}(h:POk w)(hm:MOk w n):POk w.collect:=by
 unfold WorldM.collect
 split
 ·rename_i e
  have c:=Z6K (B:=n) (by omega) hm.words (fun p hp=>(hm.pin_mem p hp).2) e
  have hp:=h.p
  by_cases hr:Z0k w.heap w.strong=true∧Z0k w.heap w.weak=true
  ·by_cases e1:(rootsF (beginW w.heap) w.strong).2.2=0
   ·by_cases e2:(allF (rootsF (beginW w.heap) w.strong).1).2=0
    ·have e7:Z0g w.heap w.strong w.weak=(endH (cW5 w.heap w.strong w.weak),(rootsF (beginW w.heap) w.strong).2.1,Z2U (cW2 w.heap w.strong) w.weak w.weak.length,(cW5 w.heap w.strong w.weak).rep,0):=by rw[Z0g,if_pos hp,if_pos hr,if_pos e1,if_pos e2]
     have hb:=Z3h hm.words hp
     have hi:=Z38 hp
     have pr0:PR n (beginW w.heap):=⟨Z4A hp (fun p hp=>(hm.pin_mem p hp).2),Z7y hp⟩
     have pr:=ZkP (B:=n) (by omega) hm.words hp (fun p hp=>(hm.pin_mem p hp).2) e1 e2
     have ck:=cOk w.heap w.strong w.weak hm.words hp e1 e2
     obtain⟨g1,g2,g3,g4,g5⟩:=ck.h4
     have hc2:(cW2 w.heap w.strong).heap.conf=w.heap.conf:=ck.x2.c
     have hsp:=ck.w2.sp
     have seen:∀ x,ToOk (cW2 w.heap w.strong) x→RootOn (endH (cW5 w.heap w.strong w.weak)) x:=by
      intro x hx
      rcases hx with rfl | hx
      ·exact ZmE _
      ·intro he
       have q:=pr.rt.q x hx
       unfold pgOf at q
       simp only[endH,cW5,Z11,g1,g2,g3]at he ⊢
       rw[hc2]at q
       have hlt:(ofA w.heap.conf x).1.toNat<(cW2 w.heap w.strong).heap.pages.length:=by
        by_cases hq:(ofA w.heap.conf x).1.toNat<(cW2 w.heap w.strong).heap.pages.length
        ·exact hq
        ·have q1:=q.1
         rw[List.getD_eq_getElem?_getD,List.getElem?_eq_none (by omega)]at q1
         simp only[Option.getD_none]at q1
         have d:(default:Page).kind=0:=rfl
         omega
       have ef:(List.map (Z1m (cW2 w.heap w.strong).heap.space) (cW2 w.heap w.strong).heap.pages).getD (ofA w.heap.conf x).1.toNat default=Z1m (cW2 w.heap w.strong).heap.space ((cW2 w.heap w.strong).heap.pages.getD (ofA w.heap.conf x).1.toNat default):=by simp[List.getD_eq_getElem?_getD,hlt]
       rw[ef,Z1m,if_neg (by unfold Z3a;omega)]
       exact q.1
     have hall:=Z35 (roots:=w.strong) hb hi e1
     have ax:=Zay hall.1 hall.2.1 e2
     have r1:∀ x∈(rootsF (beginW w.heap) w.strong).2.1,ToOk (cW2 w.heap w.strong) x:=by
      intro x hx
      have:ToOk (rootsF (beginW w.heap) w.strong).1 x:=by
       unfold rootsF at e1 hx ⊢
       cases hbb:(List.range w.strong.length).find? (fun k=>decide (Z2e (beginW w.heap) w.strong k≠0))with
       | none =>
        rw[hbb]at hx
        have h0:∀ j,j<w.strong.length→Z2e (beginW w.heap) w.strong j=0:=fun j hj=>by
         have:=List.find?_eq_none.1 hbb j (List.mem_range.2 hj)
         simpa using this
        exact Z8R (B:=n) (by omega) hb hi pr0 w.strong.length h0 x hx
       | some k =>
        rw[hbb]at e1
        simp only at e1
        have:=(List.find?_range_eq_some.1 hbb).1
        simp[e1]at this
      rcases this with q | q
      ·exact Or.inl q
      ·exact Or.inr (ax.2.q x q)
     have r2:∀ i,i≤w.weak.length→∀ x∈Z2U (cW2 w.heap w.strong) w.weak i,ToOk (cW2 w.heap w.strong) x:=by
      intro i
      induction i with
      | zero=>intro _ x hx;simp[Z2U]at hx
      | succ i ih =>
       intro hi' x hx
       simp only[Z2U,List.mem_append,List.mem_singleton]at hx
       rcases hx with hx | rfl
       ·exact ih (by omega) x hx
       ·have hs:=Z49 (cW2 w.heap w.strong) w.weak i
        unfold Z6d
        split
        ·exact Or.inl rfl
        ·rename_i hne
         unfold Z1t
         rw[hs.2.2.2.1,hs.1]
         split
         ·rename_i hq;exact Or.inr hq
         ·cases ht:(Z0o (loadA (cW2 w.heap w.strong).heap.words (w.weak.getD i default)).1).2 with
          | true =>
           refine Or.inr (pr.rt.t _ ?_ ht)
           have ho:(cW2 w.heap w.strong).old=(Z04 w.heap).1:=ck.x2.o
           rw[ho]
           have hrf:=hr.2
           simp only[Z0k,Bool.and_eq_true,Option.isNone_iff_eq_none]at hrf
           have:=List.find?_eq_none.1 hrf.2 i (List.mem_range.2 (by omega))
           simp only[rfsB,decide_eq_true_eq,not_and,Decidable.not_not]at this
           exact this hne
          | false =>
           refine Or.inl ?_
           unfold Z0o at ht ⊢
           split at ht
           ·simp at ht
           ·rename_i hcc;rw[if_neg hcc]
     have p1:=c.p1
     rw[e7]at p1 ⊢
     exact⟨p1,fun x hx=>seen x (r1 x hx),fun x hx=>seen x (r2 _ (Nat.le_refl _) x hx)⟩
    ·rw[Z0g,if_pos hp,if_pos hr,if_pos e1,if_neg e2]at e
     exact absurd e e2
   ·rw[Z0g,if_pos hp,if_pos hr,if_neg e1]at e
    exact absurd e e1
  ·rw[Z0g,if_pos hp,if_neg hr]at e
   simp at e
 ·exact h
theorem POk.step{w:WorldM}{n:Nat}(h:POk w)(hm:MOk w n)(hn:n≤1000000)(t:Tape):POk (w.step t):=by
 unfold WorldM.step
 repeat' split
 ·exact h.put hm.words (Z50 _ _)
 ·exact h.link hm hn _
 ·exact h.pin hm hn _
 ·exact h.drop _
 ·exact h.collect hm
 ·refine⟨h.p,fun r hr=>?_,h.k⟩
  rcases List.mem_append.1 hr with hr | hr
  ·exact h.s r hr
  ·simp only[List.mem_singleton]at hr
   subst hr
   exact h.pick _
theorem Zbn(t:Tape):POk t.empty:=by
 refine⟨?_,by simp[Tape.empty],by simp[Tape.empty]⟩
 have hv:=Z2J t
 have hb:=validB_iff.1 hv
 have ha:=area hv
 rw[Z1g]
 have hg:∀ j,j<t.conf.pg.toNat→(List.replicate t.conf.pg.toNat (⟨0,0,0,0⟩:Page)).getD j default=⟨0,0,0,0⟩:=fun j hj=>by simp[List.getD_eq_getElem?_getD,hj]
 refine⟨hv,by simp only[Tape.empty,Z2W,List.length_replicate];omega,by simp only[Tape.empty,Z2W,List.length_replicate];omega,Or.inl rfl,Or.inl rfl, ?_⟩
 simp only[Tape.empty,Z2W]
 refine⟨fun j hj=>?_,fun j hj hk=>?_,fun j hj hk=>?_⟩
 ·rw[List.length_replicate]at hj
  rw[hg j hj]
  exact⟨by simp,by simp,by simp,by simp,by simp,by simp⟩
 ·rw[List.length_replicate]at hj
  rw[hg j hj]at hk
  simp at hk
 ·rw[List.length_replicate]at hj
  rw[hg j hj]at hk
  simp at hk
theorem ZgH{w:WorldM}{n:Nat}(h:POk w)(hm:MOk w n)(t:Tape):∀ k,n+k≤1000000→POk (mkS w t k).1
 | 0,_=>h
 | k+1,hk=>(ZgH h hm t k (by omega)).step (Z9k hm t k (by omega)) (by omega) _
def hdA(ws:List Int)(a:Int):Header:=(decodeH (loadA ws a).1).1
def okA(ws:List Int)(a:Int):Prop:=(decodeH (loadA ws a).1).2=true
def kdA(ws:List Int)(a:Int):Int:=(hdA ws a).kind
def kpA(ws:List Int)(a:Int):Int:=if kdA ws a=0 then 1 else hlA ws a+1
def bsP(h:Heap)(i:Nat):Int:=4096+i*h.conf.pw
def tile(ws:List Int):Int→Int→List Int→Prop
 | a,b,[]=>a=b
 | a,b,x::l=>x=a∧okA ws a∧tile ws (a+hlA ws a+1) b l
theorem Z6m(ws:List Int)(a:Int):sizeH (hdA ws a)=hlA ws a+1:=by
 unfold hdA
 rw[sizeH,if_pos (Z2i _)]
 rfl
theorem Zda{ws:List Int}:∀ {l:List Int} {a b:Int},tile ws a b l→a≤b
 | [],a,b,h=>by simp only[tile]at h;omega
 | x::l,a,b,h=>by
  have:=Zda h.2.2
  have:=Z0i ws a
  omega
theorem Z1D{ws:List Int}{x:Int}:∀ {l:List Int} {a b:Int},tile ws a b l→x∈l→okA ws x∧a≤x∧x+hlA ws x<b
 | [],_,_,_,hx=>by simp at hx
 | y::l,a,b,h,hx=>by
  have hr:=Z0i ws a
  rcases List.mem_cons.1 hx with rfl | hx
  ·have:=Zda h.2.2
   rw[h.1]
   exact⟨h.2.1,by omega,by omega⟩
  ·have:=Z1D h.2.2 hx
   exact⟨this.1,by omega,this.2.2⟩
theorem ZaZ{ws:List Int}{x y:Int}:∀ {l:List Int} {a b:Int},tile ws a b l→x∈l→y∈l→x<y→x+hlA ws x<y
 | [],_,_,_,hx,_,_=>by simp at hx
 | z::l,a,b,h,hx,hy,hxy=>by
  have hr:=Z0i ws a
  have h1:=h.1
  rcases List.mem_cons.1 hx with e | hx'
  ·rcases List.mem_cons.1 hy with e2 | hy'
   ·omega
   ·have:=(Z1D h.2.2 hy').2.1
    rw[e,h1]
    omega
  ·rcases List.mem_cons.1 hy with e2 | hy'
   ·have:=(Z1D h.2.2 hx').2.1
    omega
   ·exact ZaZ h.2.2 hx' hy' hxy
theorem Zax{ws:List Int}{m:List Int}{b c:Int}:∀ {l:List Int} {a:Int},tile ws a b l→tile ws b c m→tile ws a c (l++m)
 | [],a,h,h2=>by simp only[tile]at h;subst h;exact h2
 | _::_,_,h,h2=>⟨h.1,h.2.1,Zax h.2.2 h2⟩
theorem Z2j{ws ws':List Int}:∀ {l:List Int} {a b:Int},tile ws a b l→(∀ x∈l,okA ws' x∧hlA ws' x=hlA ws x)→tile ws' a b l
 | [],_,_,h,_=>h
 | x::l,a,b,h,hh=>by
  have hx:=hh x (by simp)
  have h1:=h.1
  subst h1
  refine⟨rfl,hx.1, ?_⟩
  rw[hx.2]
  exact Z2j h.2.2 fun y hy=>hh y (List.mem_cons_of_mem _ hy)
theorem Z9t{ws:List Int}{c:Int}:∀ {l:List Int} {a b:Int},tile ws a b l→a≤c→c<b→∃ x∈l,x≤c∧c≤x+hlA ws x
 | [],a,b,h,h1,h2=>by simp only[tile]at h;omega
 | x::l,a,b,h,h1,h2=>by
  by_cases hc:c≤a+hlA ws a
  ·exact⟨a,by rw[h.1];simp,h1,hc⟩
  ·obtain⟨y,hy,h3⟩:=Z9t h.2.2 (show a+hlA ws a+1≤c by omega) h2
   exact⟨y,List.mem_cons_of_mem _ hy,h3⟩
theorem Z27{ws ws':List Int}{a:Int}(h:(loadA ws' a).1=(loadA ws a).1):(okA ws a→okA ws' a)∧hlA ws' a=hlA ws a∧kdA ws' a=kdA ws a∧hdA ws' a=hdA ws a∧kpA ws' a=kpA ws a:=by
 have e:hdA ws' a=hdA ws a:=by rw[hdA,hdA,h]
 have e2:hlA ws' a=hlA ws a:=by rw[hlA,hlA,h]
 have e3:kdA ws' a=kdA ws a:=by rw[kdA,kdA,e]
 exact⟨fun q=>by rw[okA,h];exact q,e2,e3,e,by rw[kpA,kpA,e2,e3]⟩
structure Gt (h:Heap) (T:Nat→List Int):Prop where
 p:Z02 h=true
 t1:∀ i,i<h.pages.length→(h.pages.getD i default).kind=1→tile h.words (bsP h i) (bsP h i+(h.pages.getD i default).used) (T i)
 t2:∀ i,i<h.pages.length→(h.pages.getD i default).kind=2→T i=[bsP h i]∧okA h.words (bsP h i)∧hlA h.words (bsP h i)+1=(h.pages.getD i default).used
 t0:∀ i x,x∈T i→i<h.pages.length∧((h.pages.getD i default).kind=1∨(h.pages.getD i default).kind=2)
structure Gd (h:Heap) (T:Nat→List Int):Prop where
 p:Z02 h=true
 sp:∀ i,i<h.pages.length→(h.pages.getD i default).kind≠0→(h.pages.getD i default).space=h.space
 t1:∀ i,i<h.pages.length→(h.pages.getD i default).kind=1→tile h.words (bsP h i) (bsP h i+(h.pages.getD i default).used) (T i)∧∀ x∈T i,hlA h.words x+1≤Z00 h.conf
 t2:∀ i,i<h.pages.length→(h.pages.getD i default).kind=2→T i=[bsP h i]∧okA h.words (bsP h i)∧hlA h.words (bsP h i)+1=(h.pages.getD i default).used∧kdA h.words (bsP h i)≠0
 t0:∀ i x,x∈T i→i<h.pages.length∧((h.pages.getD i default).kind=1∨(h.pages.getD i default).kind=2)
 d:∀ a,(loadA h.words a).1≠0→∃ i x,x∈T i∧x≤a∧a<x+kpA h.words x
 q:∀ i x k,x∈T i→kdA h.words x≠0→0≤k→k<hlA h.words x→Z0e (hdA h.words x) k=true→(loadA h.words (x+1+k)).1=0∨∃ j,(loadA h.words (x+1+k)).1∈T j∧kdA h.words (loadA h.words (x+1+k)).1≠0
 cr:(crowd h.pages:Int)≤h.conf.pg/4
def Ob(h:Heap)(T:Nat→List Int)(x:Int):Prop:=∃ j,x∈T j∧kdA h.words x≠0
section
variable {h:Heap} {T:Nat→List Int} (g:Gt h T)
include g
theorem Gt.on{i:Nat}{x:Int}(hx:x∈T i):i<h.pages.length∧((h.pages.getD i default).kind=1∨(h.pages.getD i default).kind=2)∧bsP h i≤x∧x<bsP h i+h.conf.pw∧x+hlA h.words x<bsP h i+(h.pages.getD i default).used∧okA h.words x∧((h.pages.getD i default).kind=2→x=bsP h i∧hlA h.words x+1=(h.pages.getD i default).used):=by
 have t:=g.t0 i x hx
 have po:=Z07 g.p
 have pp:=Z0T g.p t.1
 have hr:=Z0i h.words x
 refine⟨t.1,t.2, ?_⟩
 rcases t.2 with k | k
 ·have m:=Z1D (g.t1 i t.1 k) hx
  exact⟨m.2.1,by omega,m.2.2,m.1,fun q=>by omega⟩
 ·have m:=g.t2 i t.1 k
  rw[m.1]at hx
  have hx:=List.mem_singleton.1 hx
  subst hx
  exact⟨by omega,by omega,by omega,m.2.1,fun _=>⟨rfl,m.2.2⟩⟩
theorem Gt.ofx{i:Nat}{x:Int}(hx:x∈T i):ofA h.conf x=((i:Int),x-bsP h i,0):=by
 have o:=g.on hx
 have po:=Z07 g.p
 have:=Z8j (c:=h.conf) (i:=i) (o:=x-bsP h i) po.1 (by omega) (by omega)
 rw[← this]
 congr 1
 unfold bsP
 omega
theorem Gt.sep{i j:Nat}{x y:Int}(hx:x∈T i)(hy:y∈T j)(hxy:x<y):x+hlA h.words x<y:=by
 have o1:=g.on hx
 have o2:=g.on hy
 have r2:=Z0i h.words y
 have r1:=Z0i h.words x
 unfold bsP at o1 o2
 rcases Nat.lt_trichotomy i j with q | q | q
 ·have:=Z48 g.p q o2.1 o1.2.1 (by omega)
  omega
 ·subst q
  rcases o1.2.1 with k | k
  ·exact ZaZ (g.t1 i o1.1 k) hx hy hxy
  ·have:=(o1.2.2.2.2.2.2 k).1
   have:=(o2.2.2.2.2.2.2 k).1
   omega
 ·have:=Z48 g.p q o1.1 o2.2.1 (by omega)
  omega
theorem Gt.free{i j:Nat}{x:Int}(hi:i<h.pages.length)(hk:(h.pages.getD i default).kind=0∨(h.pages.getD i default).kind=1)(hx:x∈T j):x+hlA h.words x<bsP h i+occP (h.pages.getD i default)∨bsP h i+h.conf.pw≤x:=by
 have o:=g.on hx
 have po:=Z07 g.p
 have pp:=Z0T g.p hi
 have hoc:0≤occP (h.pages.getD i default):=by unfold occP;split<;>omega
 unfold bsP at o ⊢
 rcases Nat.lt_trichotomy i j with q | q | q
 ·have:=Z0W (i:=i) (j:=j) (pw:=h.conf.pw) (by omega) (by omega)
  omega
 ·subst q
  rw[occP,if_neg (by omega)]
  omega
 ·have:=Z48 g.p q hi o.2.1 (by omega)
  omega
theorem Gt.at'{i:Nat}{x:Int}(hx:x∈T i):atH h x=(hdA h.words x,0):=by
 have o:=g.on hx
 have r:=Z0i h.words x
 have s:sizeH (decodeH (loadA h.words x).1).1=hlA h.words x+1:=Z6m h.words x
 unfold atH
 rw[if_pos g.p,g.ofx hx]
 simp only[Int.toNat_natCast,s,if_true]
 rw[if_pos ⟨o.2.1,by omega,o.2.2.2.2.2.1⟩,if_neg]
 ·rfl
 ·have:=o.2.2.2.2.2.2
  omega
theorem ZcA{i:Nat}(hi:i<h.pages.length)(hk:(h.pages.getD i default).kind=1):∀ (f:Nat) (o:Int) (l:List Int),tile h.words (bsP h i+o) (bsP h i+(h.pages.getD i default).used) l→(∀ x∈l,x∈T i)→0≤o→(h.pages.getD i default).used-o≤f→Z2A h i f o=some l
 | 0,o,[],ht,hm,h0,hf=>rfl
 | 0,o,x::l,ht,hm,h0,hf=>by
  have:=Zda ht.2.2
  have:=Z0i h.words (bsP h i+o)
  omega
 | f+1,o,[],ht,hm,h0,hf=>by
  simp only[tile]at ht
  unfold Z2A
  rw[if_neg]
  show ¬ o<(h.pages.getD (i:Int).toNat default).used
  rw[Int.toNat_natCast]
  omega
 | f+1,o,x::l,ht,hm,h0,hf=>by
  have hx:=hm x (by simp)
  have e:=ht.1
  have on:=g.on hx
  have po:=Z07 g.p
  have hr:=Z0i h.words x
  have hpg:pg h (i:Int)=h.pages.getD i default:=by simp[pg]
  have ea:adr h i o=x:=by
   unfold adr address
   rw[if_pos po.1,if_pos (inB_iff.2 ⟨by omega,by omega,h0,by omega⟩),e]
   unfold bsP
   simp only
   omega
  have t3:=ht.2.2
  rw[← e]at t3
  have ih:=ZcA hi hk f (o+(hlA h.words x+1)) l (by rw[show bsP h i+(o+(hlA h.words x+1))=x+hlA h.words x+1 by omega];exact t3) (fun y hy=>hm y (List.mem_cons_of_mem _ hy)) (by omega) (by omega)
  unfold Z2A
  rw[hpg,if_pos (by omega),ea,g.at' hx]
  simp only[if_true]
  rw[if_neg (by omega),Z6m,ih]
  rfl
theorem Gt.page{i:Nat}(hi:i<h.pages.length):Z06 h i=(T i,0):=by
 have pp:=Z0T g.p hi
 have hpg:pg h (i:Int)=h.pages.getD i default:=by simp[pg]
 unfold Z06
 rw[if_pos g.p,if_pos (by omega),hpg]
 by_cases hk:(h.pages.getD i default).kind=0∨(h.pages.getD i default).kind=3
 ·rw[if_pos hk]
  have:T i=[]:=List.eq_nil_iff_forall_not_mem.2 fun x hx=>by have:=(g.t0 i x hx).2;omega
  rw[this]
 ·rw[if_neg hk]
  by_cases h1:(h.pages.getD i default).kind=1
  ·have:=ZcA g hi h1 256 0 (T i) (by rw[Int.add_zero];exact(g.t1 i hi h1)) (fun _ q=>q) (by omega) (by omega)
   rw[this]
  ·have h2:(h.pages.getD i default).kind=2:=by omega
   have t:=g.t2 i hi h2
   have hx:bsP h i∈T i:=by rw[t.1];simp
   have on:=g.on hx
   have po:=Z07 g.p
   have hr:=Z0i h.words (bsP h i)
   have ea:adr h i 0=bsP h i:=by
    unfold adr address
    rw[if_pos po.1,if_pos (inB_iff.2 ⟨by omega,by omega,by omega,by omega⟩)]
    unfold bsP
    simp
   have:Z2A h i 256 0=some (T i):=by
    unfold Z2A
    rw[hpg,if_pos (by omega),ea,g.at' hx]
    simp only[if_true]
    rw[if_pos h2,t.1]
   rw[this]
theorem Gt.starts:∀ (f i:Nat),i+f=h.pages.length→(Z0E h f i).2=0∧∀ x,x∈(Z0E h f i).1↔∃ j,i≤j∧x∈T j
 | 0,i,hf=>by
  refine⟨rfl,fun x=>⟨fun hx=>by simp[Z0E]at hx, ?_⟩⟩
  rintro⟨j,hj,hx⟩
  have:=(g.t0 j x hx).1
  omega
 | f+1,i,hf=>by
  obtain⟨i1,i2⟩:=Gt.starts f (i+1) (by omega)
  unfold Z0E
  rw[g.page (show i<h.pages.length by omega)]
  simp only[i1,if_true]
  refine⟨trivial,fun x=>?_⟩
  rw[List.mem_append,i2]
  constructor
  ·rintro(hx | ⟨j,hj,hx⟩)
   ·exact⟨i,Nat.le_refl _,hx⟩
   ·exact⟨j,by omega,hx⟩
  ·rintro⟨j,hj,hx⟩
   by_cases q:j=i
   ·subst q;exact Or.inl hx
   ·exact Or.inr ⟨j,by omega,hx⟩
theorem Gt.objs:(Z04 h).2=0∧∀ x,x∈(Z04 h).1↔Ob h T x:=by
 have s:=g.starts h.pages.length 0 (by omega)
 have e:Z0O h=Z0E h h.pages.length 0:=by rw[Z0O,if_pos g.p]
 unfold Z04
 rw[e]
 refine⟨s.1,fun x=>?_⟩
 rw[List.mem_filter,s.2]
 constructor
 ·rintro⟨⟨j,_,hj⟩,hb⟩
  have hb':(atH h x).1.kind≠0:=of_decide_eq_true hb
  rw[g.at' hj]at hb'
  exact⟨j,hj,hb'⟩
 ·rintro⟨j,hj,hb⟩
  refine⟨⟨j,by omega,hj⟩,decide_eq_true ?_⟩
  rw[g.at' hj]
  exact hb
end
section
variable {h:Heap} {T:Nat→List Int} (g:Gd h T)
include g
theorem Gd.gt:Gt h T:=⟨g.p,fun i hi hk=>(g.t1 i hi hk).1,fun i hi hk=>⟨(g.t2 i hi hk).1,(g.t2 i hi hk).2.1,(g.t2 i hi hk).2.2.1⟩,g.t0⟩
theorem Gd.on{i:Nat}{x:Int}(hx:x∈T i):i<h.pages.length∧((h.pages.getD i default).kind=1∨(h.pages.getD i default).kind=2)∧bsP h i≤x∧x<bsP h i+h.conf.pw∧x+hlA h.words x<bsP h i+(h.pages.getD i default).used∧okA h.words x∧((h.pages.getD i default).kind=2→x=bsP h i∧hlA h.words x+1=(h.pages.getD i default).used):=g.gt.on hx
theorem Gd.ofx{i:Nat}{x:Int}(hx:x∈T i):ofA h.conf x=((i:Int),x-bsP h i,0):=g.gt.ofx hx
theorem Gd.sep{i j:Nat}{x y:Int}(hx:x∈T i)(hy:y∈T j)(hxy:x<y):x+hlA h.words x<y:=g.gt.sep hx hy hxy
theorem Gd.free{i j:Nat}{x:Int}(hi:i<h.pages.length)(hk:(h.pages.getD i default).kind=0∨(h.pages.getD i default).kind=1)(hx:x∈T j):x+hlA h.words x<bsP h i+occP (h.pages.getD i default)∨bsP h i+h.conf.pw≤x:=g.gt.free hi hk hx
theorem Gd.at'{i:Nat}{x:Int}(hx:x∈T i):atH h x=(hdA h.words x,0):=g.gt.at' hx
theorem Gd.page{i:Nat}(hi:i<h.pages.length):Z06 h i=(T i,0):=g.gt.page hi
theorem Gd.objs:(Z04 h).2=0∧∀ x,x∈(Z04 h).1↔Ob h T x:=g.gt.objs
end
theorem Ze1{l:List Page}:∀ {i j:Nat},j≤i→(l.getD j default).kind≠3→(∀ m,j<m→m≤i→(l.getD m default).kind=3)→Z0s l i=j
 | 0,j,h,_,_=>by simp[Z0s];omega
 | i+1,j,h,hk,hm=>by
  unfold Z0s
  by_cases q:j=i+1
  ·subst q
   rw[if_neg hk]
  ·rw[if_pos (hm (i+1) (by omega) (Nat.le_refl _))]
   exact Ze1 (by omega) hk fun m h1 h2=>hm m h1 (by omega)
theorem ZkM{ws:List Int}{a n:Int}{k:Nat}(hn:0≤n)(ha:4096≤a∧a-4096+n≤ws.length)(hk:(k:Int)<n):(Z1e ws a n).1.getD k default=(loadA ws (a+k)).1:=by
 unfold Z1e loadA
 rw[if_neg (by omega),if_pos ha,if_pos (by omega)]
 simp only[List.getD_eq_getElem?_getD]
 rw[List.getElem?_take_of_lt (by omega),List.getElem?_drop,show(a-4096).toNat+k=(a+k-4096).toNat by omega]
 rfl
section
variable {h:Heap} {T:Nat→List Int} (g:Gd h T)
include g
theorem Gd.inw{i:Nat}{x:Int}(hx:x∈T i):4096≤x∧x+hlA h.words x<4096+h.words.length:=by
 have o:=g.on hx
 have po:=Z07 g.p
 have u:=ZaS g.p o.1 o.2.1
 have h0:0≤(i:Int)*h.conf.pw:=Int.mul_nonneg (by omega) (by omega)
 unfold bsP at o
 omega
theorem Gd.head{i j:Nat}{x a:Int}(hx:x∈T j)(h1:x≤a)(h2:a≤x+hlA h.words x)(hi:i<h.pages.length)(h3:bsP h i≤a)(h4:a<bsP h i+h.conf.pw):Z0s h.pages i=j:=by
 have o:=g.on hx
 have po:=Z07 g.p
 unfold bsP at o h3 h4
 have hji:j≤i:=by
  by_cases q:j≤i
  ·exact q
  ·have:=Z0W (i:=i) (j:=j) (pw:=h.conf.pw) (by omega) (by omega)
   omega
 refine Ze1 hji (by omega) fun m m1 m2=>?_
 have hms:=Z0W (i:=j) (j:=m) (pw:=h.conf.pw) (by omega) (by omega)
 have hmi:(m:Int)*h.conf.pw≤i*h.conf.pw:=Int.mul_le_mul_of_nonneg_right (by omega) (by omega)
 rcases o.2.1 with k | k
 ·have pp:=Z0T g.p o.1
  omega
 ·by_cases q:(h.pages.getD m default).kind=3
  ·exact q
  ·have:=Z48 g.p m1 (by omega) (Or.inr k) q
   omega
theorem Gd.badd{i k:Nat}(hi:i<h.pages.length)(hk:(k:Int)<h.conf.pw):badD h i (Z1z h i) k=false:=by
 have po:=Z07 g.p
 unfold badD
 have ew:Z3d h i k=(loadA h.words (bsP h i+k)).1:=by
  unfold Z3d address
  rw[if_pos po.1,if_pos (inB_iff.2 ⟨by omega,by omega,by omega,by omega⟩)]
  unfold bsP
  simp only
  rw[Int.add_assoc]
 rw[ew]
 by_cases h0:(loadA h.words (bsP h i+k)).1=0
 ·rw[h0];simp
 ·obtain⟨j,x,hx,h1,h2⟩:=g.d _ h0
  have hr:=Z0i h.words x
  have hkp:kpA h.words x≤hlA h.words x+1:=by unfold kpA;split<;>omega
  have hh:=g.head hx h1 (by omega) hi (by omega) (by omega)
  have hb:(Z1z h i).getD k default=true:=by
   unfold Z1z Z1B
   rw[hh,g.page (g.on hx).1]
   have hkk:k<h.conf.pw.toNat:=by omega
   simp only[List.getD_eq_getElem?_getD,List.getElem?_map,List.getElem?_range hkk,Option.map_some,Option.getD_some,List.any_eq_true]
   refine⟨x,hx, ?_⟩
   unfold Z4Y
   have ek:Z3J h x=kpA h.words x:=by
    unfold Z3J kpA
    rw[g.at' hx]
    rw[Z6m]
    rfl
   rw[ek,Bool.and_eq_true,decide_eq_true_eq,decide_eq_true_eq]
   unfold bsP at h1 h2
   omega
  rw[hb]
  simp
theorem Gd.dirt{i:Nat}(hi:i<h.pages.length):Z2k h i (Z1z h i)=0:=by
 have hl:=Z3U h i
 unfold Z2k
 have:(List.range (Z1z h i).length).find? (badD h i (Z1z h i))=none:=by
  rw[List.find?_eq_none]
  intro k hk
  have hk:=List.mem_range.1 hk
  rw[g.badd hi (by omega)]
  simp
 rw[this]
theorem Gd.cls{i:Nat}{x:Int}(hx:x∈T i):Z19 h i x=false:=by
 have o:=g.on hx
 unfold Z19
 rw[g.at' hx,Z6m,Int.toNat_natCast]
 rcases o.2.1 with k | k
 ·have:=(g.t1 i o.1 k).2 x hx
  rw[k]
  simp
  omega
 ·have t:=g.t2 i o.1 k
  have hx2:=(o.2.2.2.2.2.2 k).1
  have:(hdA h.words x).kind≠0:=by rw[hx2];exact t.2.2.2
  rw[k]
  simp
  exact this
theorem Gd.pageF{i:Nat}(hi:i<h.pages.length):(pageF h i).fault=0:=by
 have hs:=g.sp i hi
 have hc:Z0X h i (T i)=0:=by
  unfold Z0X
  have:(T i).find? (Z19 h i)=none:=by
   rw[List.find?_eq_none]
   intro x hx
   rw[g.cls hx]
   simp
  rw[this]
  rfl
 unfold Go.Proofs.YtjflpmnenhdeeaaGreat.pageF
 rw[if_neg (by rintro⟨q1,q2⟩;exact q2 (hs q1)),g.page hi,if_neg (by simp),if_neg (by rw[hc];simp),if_neg (by rw[g.dirt hi];simp)]
theorem Gd.fields{i:Nat}{x:Int}(hx:x∈T i)(hk:kdA h.words x≠0):getH h x=(hdA h.words x,0)∧((Z0M h x).1.length:Int)=hlA h.words x∧∀ k:Nat,(k:Int)<hlA h.words x→(Z0M h x).1.getD k default=(loadA h.words (x+1+k)).1:=by
 have n:=g.inw hx
 have r:=Z0i h.words x
 have eg:getH h x=(hdA h.words x,0):=by
  unfold getH
  rw[if_pos g.p,if_neg (by omega),g.at' hx,if_neg]
  rintro⟨_,q⟩
  exact hk q
 have ef:Z0M h x=Z1e h.words (x+1) (hlA h.words x):=by
  unfold Z0M
  rw[eg,if_pos rfl]
  rfl
 refine⟨eg, ?_, ?_⟩
 ·rw[ef]
  unfold Z1e
  rw[if_neg (by omega),if_pos (by omega)]
  simp only[List.length_take,List.length_drop]
  omega
 ·intro k hk
  rw[ef]
  exact ZkM r.1 (by omega) hk
theorem Gd.good:Z0t h=⟨0,0,0⟩:=by
 have ob:=g.objs
 have h1:Z2p h=none:=by
  unfold Z2p
  rw[List.find?_eq_none]
  intro i hi
  have:=g.pageF (List.mem_range.1 hi)
  simp[this]
 have h2:Z0Q h (Z04 h).1=⟨0,0,0⟩:=by
  unfold Z0Q
  have:(List.range (Z04 h).1.length).find? (fun i=>(Z1X h (Z04 h).1 i).isSome)=none:=by
   rw[List.find?_eq_none]
   intro i hi
   have hm:(Z04 h).1.getD i default∈(Z04 h).1:=getD_mem_iff.2 ⟨i,List.mem_range.1 hi,rfl⟩
   have:Z1X h (Z04 h).1 i=none:=by
    unfold Z1X
    generalize (Z04 h).1.getD i default=x at hm ⊢
    obtain⟨j,hj,hkd⟩:=(ob.2 x).1 hm
    have f:=g.fields hj hkd
    rw[List.find?_eq_none]
    intro k hk
    have hk:=List.mem_range.1 hk
    have hk2:(k:Int)<hlA h.words x:=by omega
    unfold Z8X
    rw[f.1,f.2.2 k hk2]
    intro hc
    simp only[Bool.and_eq_true,Bool.not_eq_true',decide_eq_true_eq,decide_eq_false_iff_not]at hc
    rcases g.q j x k hj hkd (by omega) hk2 hc.1.1 with q | ⟨m,q1,q2⟩
    ·exact hc.1.2 q
    ·exact hc.2 ((ob.2 _).2 ⟨m,q1,q2⟩)
   rw[this]
   simp
  rw[this]
 unfold Z0t
 rw[if_pos g.p,h1]
 simp only[h2,ne_eq,not_true_eq_false,if_false]
 rw[if_neg]
 have:=g.cr
 show ¬ h.conf.pg/4<(crowd h.pages:Int)
 omega
theorem Gd.refers{s:List Int}(hs:∀ r∈s,r=0∨Ob h T r):Z0k h s=true:=by
 unfold Z0k
 rw[Bool.and_eq_true,decide_eq_true_eq]
 refine⟨g.good, ?_⟩
 have:(List.range s.length).find? (rfsB s (Z04 h).1)=none:=by
  rw[List.find?_eq_none]
  intro i hi
  have hm:s.getD i default∈s:=getD_mem_iff.2 ⟨i,List.mem_range.1 hi,rfl⟩
  unfold rfsB
  rw[decide_eq_true_eq]
  rintro⟨q1,q2⟩
  rcases hs _ hm with q | q
  ·exact q1 q
  ·exact q2 ((g.objs.2 _).2 q)
 rw[this]
 rfl
end
theorem decode_encode{hd:Header}(hv:Z0h hd=true)(hm:0≤hd.map∧hd.map≤4294967295):decodeH (Z0b hd).1=(hd,true):=by
 have b:=validH_iff.1 hv
 have e1:Z0b hd=(1+4*hd.kind+16*hd.length+65536*hd.map,0):=by rw[Z0b,if_pos hv]
 have e2:Z2l (1+4*hd.kind+16*hd.length+65536*hd.map)=hd:=by
  obtain⟨k,l,m⟩:=hd
  simp only at b hm
  simp only[Z2l,Header.mk.injEq]
  omega
 rw[e1]
 unfold decodeH
 simp only[e2,e1]
 simp
theorem Z7F{l l':List Page}:∀ n:Nat,(∀ i,i<n→(l'.getD i default).kind=1→0<(l'.getD i default).pins→(l.getD i default).kind=1∧0<(l.getD i default).pins)→Z0r l' n≤Z0r l n
 | 0,_=>Nat.le_refl _
 | n+1,hh=>by
  have ih:=Z7F n fun i hi=>hh i (by omega)
  have hn:=hh n (by omega)
  unfold Z0r
  split
  ·rename_i c
   rw[if_pos (hn c.1 c.2)]
   omega
  ·split<;>omega
theorem Z9Q{l:List Page}{i:Nat}{p:Page}(hi:i<l.length):∀ n:Nat,Z0r (l.set i p) n≤Z0r l n+1∧(n≤i→Z0r (l.set i p) n≤Z0r l n)
 | 0=>⟨by simp[Z0r],fun _=>Nat.le_refl _⟩
 | n+1=>by
  obtain⟨i1,i2⟩:=Z9Q (p:=p) hi n
  unfold Z0r
  rw[Z0p hi]
  by_cases q:i=n
  ·have:=i2 (by omega)
   subst q
   refine⟨?_,fun q=>by omega⟩
   split<;>split<;>omega
  ·rw[if_neg q]
   refine⟨?_,fun q2=>?_⟩
   ·split<;>omega
   ·have:=i2 (by omega)
    split<;>omega
theorem Z5W{l l':List Page}(hl:l'.length=l.length)(hh:∀ i,i<l.length→(l'.getD i default).kind=1→0<(l'.getD i default).pins→(l.getD i default).kind=1∧0<(l.getD i default).pins):crowd l'≤crowd l:=by
 unfold crowd
 rw[hl]
 exact Z7F _ hh
theorem Gd.pages{h h':Heap}{T:Nat→List Int}(g:Gd h T)(hp:Z02 h'=true)(hc:h'.conf=h.conf)(hw:h'.words=h.words)(hs:h'.space=h.space)(hl:h'.pages.length=h.pages.length)
  (hh:∀ i,i<h.pages.length→(h'.pages.getD i default).kind=(h.pages.getD i default).kind∧(h'.pages.getD i default).space=(h.pages.getD i default).space∧(h'.pages.getD i default).used=(h.pages.getD i default).used) (hcr:(crowd h'.pages:Int)≤h.conf.pg/4):Gd h' T:=by
 have hb:∀ i,bsP h' i=bsP h i:=fun i=>by rw[bsP,bsP,hc]
 refine⟨hp, ?_, ?_, ?_, ?_,by rw[hw];exact g.d,by rw[hw];exact g.q,by rw[hc];exact hcr⟩
 ·intro i hi hk
  rw[hl]at hi
  rw[(hh i hi).1]at hk
  rw[(hh i hi).2.1,hs]
  exact g.sp i hi hk
 ·intro i hi hk
  rw[hl]at hi
  rw[(hh i hi).1]at hk
  rw[(hh i hi).2.2,hw,hb,hc]
  exact g.t1 i hi hk
 ·intro i hi hk
  rw[hl]at hi
  rw[(hh i hi).1]at hk
  rw[(hh i hi).2.2,hw,hb]
  exact g.t2 i hi hk
 ·intro i x hx
  have t:=g.t0 i x hx
  rw[hl,(hh i t.1).1]
  exact t
theorem Gd.store{h:Heap}{T:Nat→List Int}(g:Gd h T){x k v:Int}(hx:Ob h T x)(hk:0≤k∧k<hlA h.words x)(hv:Z0e (hdA h.words x) k=true→v=0∨Ob h T v) :
  Gd { h with words:=(Z0H h.words (x+1+k) v).1 } T∧(∀ i y,y∈T i→(loadA (Z0H h.words (x+1+k) v).1 y).1=(loadA h.words y).1):=by
 obtain⟨j,hj,hkd⟩:=hx
 have n:=g.inw hj
 have hin:4096≤x+1+k∧x+1+k<4096+h.words.length:=by omega
 have hlen:=Z2z (ws:=h.words) (v:=v) hin
 have key:∀ i y,y∈T i→(loadA (Z0H h.words (x+1+k) v).1 y).1=(loadA h.words y).1:=by
  intro i y hy
  rw[Z0F hin]
  intro e
  have:=g.sep hj hy (by omega)
  omega
 have ky:∀ i y,y∈T i→okA h.words y∧okA (Z0H h.words (x+1+k) v).1 y∧hlA (Z0H h.words (x+1+k) v).1 y=hlA h.words y∧kdA (Z0H h.words (x+1+k) v).1 y=kdA h.words y∧hdA (Z0H h.words (x+1+k) v).1 y=hdA h.words y∧kpA (Z0H h.words (x+1+k) v).1 y=kpA h.words y:=by
  intro i y hy
  have o:=Z27 (key i y hy)
  have:=(g.on hy).2.2.2.2.2.1
  exact⟨this,o.1 this,o.2⟩
 refine⟨⟨?_,g.sp, ?_, ?_,g.t0, ?_, ?_,g.cr⟩,key⟩
 ·have q:=g.p
  rw[Z1g]at q ⊢
  refine⟨q.1, ?_,q.2.2.1,q.2.2.2.1,q.2.2.2.2.1,q.2.2.2.2.2⟩
  simp only[hlen]
  exact q.2.1
 ·intro i hi hk1
  have t:=g.t1 i hi hk1
  exact⟨Z2j t.1 fun y hy=>⟨(ky i y hy).2.1,(ky i y hy).2.2.1⟩,fun y hy=>by rw[(ky i y hy).2.2.1];exact t.2 y hy⟩
 ·intro i hi hk2
  have t:=g.t2 i hi hk2
  have q:=ky i (bsP h i) (by rw[t.1];simp)
  refine⟨t.1,q.2.1, ?_, ?_⟩
  ·exact q.2.2.1▸t.2.2.1
  ·exact q.2.2.2.1▸t.2.2.2
 ·intro a ha
  by_cases e:a=x+1+k
  ·refine⟨j,x,hj,by omega, ?_⟩
   simp only
   rw[(ky j x hj).2.2.2.2.2,kpA,if_neg hkd]
   omega
  ·simp only at ha
   rw[Z0F hin e]at ha
   obtain⟨i,y,hy,h1,h2⟩:=g.d a ha
   refine⟨i,y,hy,h1, ?_⟩
   simp only
   rw[(ky i y hy).2.2.2.2.2]
   exact h2
 ·intro i y m hy hkd2 h0 h1 hp
  simp only at hkd2 h1 hp ⊢
  obtain⟨c0,c1,c2,c3,c4,c5⟩:=ky i y hy
  rw[c3]at hkd2
  rw[c2]at h1
  rw[c4]at hp
  have fin:∀ z,z=0∨Ob h T z→z=0∨∃ j,z∈T j∧kdA (Z0H h.words (x+1+k) v).1 z≠0:=by
   rintro z (q | ⟨b,b1,b2⟩)
   ·exact Or.inl q
   ·exact Or.inr ⟨b,b1,by rw[(ky b z b1).2.2.2.1];exact b2⟩
  by_cases e:y+1+m=x+1+k
  ·have hyx:y=x:=by
    rcases Int.lt_trichotomy y x with q | q | q
    ·have:=g.sep hy hj q;omega
    ·exact q
    ·have:=g.sep hj hy q;omega
   subst hyx
   have hmk:m=k:=by omega
   subst hmk
   rw[Z2B hin]
   exact fin _ (hv hp)
  ·rw[Z0F hin e]
   exact fin _ (g.q i y m hy hkd2 h0 h1 hp)
theorem Gd.add{h h':Heap}{T:Nat→List Int}(g:Gd h T){i:Nat}{a:Int}{hd:Header}(hv:Z0h hd=true)(hm:0≤hd.map∧hd.map≤4294967295)(hk:hd.kind≠0)
  (hp:Z02 h'=true) (hc:h'.conf=h.conf) (hs:h'.space=h.space) (hl:h'.pages.length=h.pages.length) (hw:h'.words=(Z0u h.words a (objW hd)).1)
  (hin:4096≤a∧a+sizeH hd≤4096+h.words.length) (hi:i<h.pages.length)
  (hj:∀ j,j<h.pages.length→j≠i→h'.pages.getD j default=h.pages.getD j default∨((h.pages.getD j default).kind=0∧(h'.pages.getD j default).kind=3∧(h'.pages.getD j default).space=h.space))
  (hI:((h.pages.getD i default).kind=0∨(h.pages.getD i default).kind=1)∧(h'.pages.getD i default).kind=1∧a=bsP h i+occP (h.pages.getD i default)∧(h'.pages.getD i default).used=occP (h.pages.getD i default)+sizeH hd∧sizeH hd≤Z00 h.conf∨(h.pages.getD i default).kind=0∧(h'.pages.getD i default).kind=2∧a=bsP h i∧(h'.pages.getD i default).used=sizeH hd)
  (hsp:(h'.pages.getD i default).space=h.space) (hcr:crowd h'.pages≤crowd h.pages) (hdis:∀ j x,x∈T j→x+hlA h.words x<a∨a+sizeH hd≤x) :
  Gd h' (fun j=>if j=i then T i++[a]else T j)∧kdA h'.words a≠0∧hdA h'.words a=hd∧(∀ k,a<k→k<a+sizeH hd→(loadA h'.words k).1=0)∧(∀ k,k<a∨a+sizeH hd≤k→loadA h'.words k=loadA h.words k):=by
 have ow:=ZiK hv hm
 have hs1:sizeH hd=hd.length+1:=by rw[sizeH,if_pos hv]
 have vb:=validH_iff.1 hv
 have hin':4096≤a∧a-4096+(objW hd).length≤h.words.length:=by omega
 have out:∀ k,k<a∨a+sizeH hd≤k→loadA h'.words k=loadA h.words k:=by
  intro k hk
  rw[hw]
  exact Z22 hin' (by omega)
 have wa:(loadA h'.words a).1=(Z0b hd).1:=by
  rw[hw,Z1W hin' (by omega)]
  simp[objW]
 have z:∀ k,a<k→k<a+sizeH hd→(loadA h'.words k).1=0:=by
  intro k h1 h2
  rw[hw,Z1W hin' (by omega)]
  have:(k-a).toNat=(k-a-1).toNat+1:=by omega
  rw[this,objW]
  simp[List.getD_eq_getElem?_getD,List.getElem?_replicate]
  split<;>rfl
 have de:=decode_encode hv hm
 have ha1:hdA h'.words a=hd:=by rw[hdA,wa,de]
 have ha2:okA h'.words a:=by rw[okA,wa,de]
 have ha3:hlA h'.words a=hd.length:=by rw[hlA,wa,de]
 have ha4:kdA h'.words a≠0:=by rw[kdA,ha1];exact hk
 have hb:∀ j,bsP h' j=bsP h j:=fun j=>by rw[bsP,bsP,hc]
 have ky:∀ j x,x∈T j→okA h'.words x∧hlA h'.words x=hlA h.words x∧kdA h'.words x=kdA h.words x∧hdA h'.words x=hdA h.words x∧kpA h'.words x=kpA h.words x∧∀ m,0≤m→m≤hlA h.words x→loadA h'.words (x+m)=loadA h.words (x+m):=by
  intro j x hx
  have d:=hdis j x hx
  have r:=Z0i h.words x
  have o:=Z27 (ws:=h.words) (ws':=h'.words) (a:=x) (by rw[out x (by omega)])
  refine⟨o.1 (g.on hx).2.2.2.2.2.1,o.2.1,o.2.2.1,o.2.2.2.1,o.2.2.2.2,fun m h1 h2=>out _ (by omega)⟩
 have mem:∀ j x,x∈(if j=i then T i++[a]else T j)→x∈T j∨(j=i∧x=a):=by
  intro j x hx
  split at hx
  ·rename_i q
   subst q
   rcases List.mem_append.1 hx with hx | hx
   ·exact Or.inl hx
   ·exact Or.inr ⟨rfl,List.mem_singleton.1 hx⟩
  ·exact Or.inl hx
 have mem2:∀ j x,x∈T j→x∈(if j=i then T i++[a]else T j):=by
  intro j x hx
  split
  ·rename_i q
   subst q
   exact List.mem_append_left _ hx
  ·exact hx
 have mem3:a∈(if i=i then T i++[a]else T i):=by simp
 have hnil:(h.pages.getD i default).kind=0→T i=[]:=fun q=>List.eq_nil_iff_forall_not_mem.2 fun x hx=>by have:=(g.t0 i x hx).2;omega
 refine⟨⟨hp, ?_, ?_, ?_, ?_, ?_, ?_, ?_⟩,ha4,ha1,z,out⟩
 ·intro j hj1 hk1
  rw[hl]at hj1
  rw[hs]
  by_cases q:j=i
  ·subst q;exact hsp
  ·rcases hj j hj1 q with e | e
   ·rw[e]at hk1 ⊢
    exact g.sp j hj1 hk1
   ·exact e.2.2
 ·intro j hj1 hk1
  rw[hl]at hj1
  rw[hb,hc]
  by_cases q:j=i
  ·subst q
   simp only[if_true]
   rcases hI with⟨c1,c2,c3,c4,c5⟩ | c
   ·refine⟨?_, ?_⟩
    ·have last:tile h'.words a (bsP h j+(h'.pages.getD j default).used) [a]:=⟨rfl,ha2,by rw[ha3];simp only[tile];omega⟩
     refine Zax (b:=a) ?_ last
     rcases c1 with c1 | c1
     ·rw[hnil c1]
      rw[occP,if_pos c1]at c3
      simp only[tile];omega
     ·have t:=(g.t1 j hi c1).1
      rw[occP,if_neg (by omega)]at c3
      rw[c3]
      exact Z2j t fun x hx=>⟨(ky j x hx).1,(ky j x hx).2.1⟩
    ·intro x hx
     rcases List.mem_append.1 hx with hx | hx
     ·rw[(ky j x hx).2.1]
      rcases c1 with c1 | c1
      ·rw[hnil c1]at hx;simp at hx
      ·exact(g.t1 j hi c1).2 x hx
     ·have:=List.mem_singleton.1 hx
      subst this
      omega
   ·omega
  ·rw[if_neg q]
   rcases hj j hj1 q with e | e
   ·rw[e]at hk1 ⊢
    have t:=g.t1 j hj1 hk1
    exact⟨Z2j t.1 fun x hx=>⟨(ky j x hx).1,(ky j x hx).2.1⟩,fun x hx=>by rw[(ky j x hx).2.1];exact t.2 x hx⟩
   ·omega
 ·intro j hj1 hk2
  rw[hl]at hj1
  rw[hb]
  by_cases q:j=i
  ·subst q
   simp only[if_true]
   rcases hI with c | ⟨c1,c2,c3,c4⟩
   ·omega
   ·rw[hnil c1,← c3,ha3]
    exact⟨rfl,ha2,by omega,ha4⟩
  ·rw[if_neg q]
   rcases hj j hj1 q with e | e
   ·rw[e]at hk2 ⊢
    have t:=g.t2 j hj1 hk2
    have k:=ky j (bsP h j) (by rw[t.1];simp)
    exact⟨t.1,k.1,by rw[k.2.1];exact t.2.2.1,by rw[k.2.2.1];exact t.2.2.2⟩
   ·omega
 ·intro j x hx
  rw[hl]
  rcases mem j x hx with hx | ⟨q,_⟩
  ·have t:=g.t0 j x hx
   refine⟨t.1, ?_⟩
   by_cases q:j=i
   ·subst q
    rcases hI with c | c<;>omega
   ·rcases hj j t.1 q with e | e
    ·rw[e];exact t.2
    ·omega
  ·subst q
   exact⟨hi,by rcases hI with c | c<;>omega⟩
 ·intro k hk0
  by_cases hr:k<a∨a+sizeH hd≤k
  ·rw[out k hr]at hk0
   obtain⟨j,x,hx,h1,h2⟩:=g.d k hk0
   exact⟨j,x,mem2 j x hx,h1,by rw[(ky j x hx).2.2.2.2.1];exact h2⟩
  ·refine⟨i,a,mem3,by omega, ?_⟩
   rw[kpA,if_neg ha4,ha3]
   omega
 ·intro j x k hx hkd h0 h1 hpt
  rcases mem j x hx with hx | ⟨_,q⟩
  ·have c:=ky j x hx
   rw[c.2.2.1]at hkd
   rw[c.2.1]at h1
   rw[c.2.2.2.1]at hpt
   have e:=c.2.2.2.2.2 (1+k) (by omega) (by omega)
   rw[← Int.add_assoc]at e
   rw[e]
   rcases g.q j x k hx hkd h0 h1 hpt with q | ⟨b,b1,b2⟩
   ·exact Or.inl q
   ·exact Or.inr ⟨b,mem2 b _ b1,by rw[(ky b _ b1).2.2.1];exact b2⟩
  ·subst q
   rw[ha3]at h1
   exact Or.inl (z _ (by omega) (by omega))
 ·rw[hc]
  have:=g.cr
  omega
structure NewOk (h h':Heap) (T:Nat→List Int) (hd:Header) (i:Nat) (a:Int):Prop where
 g:Gd h' (fun j=>if j=i then T i++[a]else T j)
 k:kdA h'.words a≠0
 e:hdA h'.words a=hd
 z:∀ k,a<k→k<a+sizeH hd→(loadA h'.words k).1=0
 o:∀ k,k<a∨a+sizeH hd≤k→loadA h'.words k=loadA h.words k
 d:∀ j x,x∈T j→x+hlA h.words x<a∨a+sizeH hd≤x
 c:h'.conf=h.conf
theorem Zg2{c:Conf}{n:Int}(hn:¬ 0<need c n)(h0:0≤need c n):n≤Z00 c:=by
 unfold need at hn h0
 split at h0
 ·rename_i hc
  rw[if_pos hc]at hn
  have hb:=validB_iff.1 hc.1
  rw[Z00,if_pos hc.1,Int.tdiv_eq_ediv_of_nonneg (by omega)]
  split at h0
  ·rename_i hd;exact hd
  ·rename_i hd
   rw[if_neg hd]at hn
   have e:=Int.mul_ediv_add_emod (n+c.pw-1) c.pw
   have:=Int.emod_lt_of_pos (n+c.pw-1) (b:=c.pw) (by omega)
   have hz:(n+c.pw-1)/c.pw=0:=by omega
   rw[hz]at e
   omega
 ·omega
theorem Gd.newOk{h:Heap}{T:Nat→List Int}(g:Gd h T){hd:Header}(hw:WOk h.words)(hm:0≤hd.map∧hd.map≤4294967295)(e:(new7 h hd).2.2=0):∃ i,NewOk h (new7 h hd).1 T hd i (new7 h hd).2.1:=by
 obtain⟨k1,k2,k3,k4,k5,k6,k7,k8⟩:=Zdw hw hm e
 obtain⟨a1,a2,a3,a4,a5⟩:=Z4Z k2
 have po:=Z07 g.p
 have hpt:=g.p
 rw[Z1g]at hpt
 obtain⟨p1,p2,p3,p4,p5,p6⟩:=hpt
 have hin:4096≤(put7 h hd).2.1∧(put7 h hd).2.1+sizeH hd≤4096+h.words.length:=⟨k3.lo,k3.hi⟩
 have e1:(new7 h hd).1.conf=h.conf:=by rw[k6];exact k3.c
 have e2:(new7 h hd).1.space=h.space:=by rw[k6];exact k3.sp
 have e3:(new7 h hd).1.pages.length=h.pages.length:=by rw[k6];exact k3.l
 have e4:(new7 h hd).1.words=(Z0u h.words (put7 h hd).2.1 (objW hd)).1:=by rw[k6]
 have e5:(new7 h hd).1.pages=(put7 h hd).1.pages:=by rw[k6]
 rw[k5]
 have fin:∀ i:Nat,i<h.pages.length→(∀ j,j<h.pages.length→j≠i→(new7 h hd).1.pages.getD j default=h.pages.getD j default∨((h.pages.getD j default).kind=0∧((new7 h hd).1.pages.getD j default).kind=3∧((new7 h hd).1.pages.getD j default).space=h.space)) →
   ((h.pages.getD i default).kind=0∨(h.pages.getD i default).kind=1)∧((new7 h hd).1.pages.getD i default).kind=1∧(put7 h hd).2.1=bsP h i+occP (h.pages.getD i default)∧((new7 h hd).1.pages.getD i default).used=occP (h.pages.getD i default)+sizeH hd∧sizeH hd≤Z00 h.conf∨(h.pages.getD i default).kind=0∧((new7 h hd).1.pages.getD i default).kind=2∧(put7 h hd).2.1=bsP h i∧((new7 h hd).1.pages.getD i default).used=sizeH hd →
   ((new7 h hd).1.pages.getD i default).space=h.space→crowd (new7 h hd).1.pages≤crowd h.pages→(∀ j x,x∈T j→x+hlA h.words x<(put7 h hd).2.1∨(put7 h hd).2.1+sizeH hd≤x)→∃ i,NewOk h (new7 h hd).1 T hd i (put7 h hd).2.1:=by
  intro i hi hj hI hsp hcr hdis
  obtain⟨q1,q2,q3,q4,q5⟩:=g.add a1 hm a5 k7 e1 e2 e3 e4 hin hi hj hI hsp hcr hdis
  exact⟨i,q1,q2,q3,q4,q5,hdis,e1⟩
 rw[e5]at fin
 by_cases hn:0<need h.conf (sizeH hd)
 ·have e7:put7 h hd=Z0m h (sizeH hd) (need h.conf (sizeH hd)):=by rw[put7,if_pos hn]
  rw[e7]at k4 fin ⊢
  by_cases hg:0≤first h.pages (need h.conf (sizeH hd))∧Z1P h.pages+need h.conf (sizeH hd)≤Z26 h.conf
  ·obtain⟨g1,g2,g3⟩:=Z1C hg.1
   have el:(Z2d h.conf h.pages (first h.pages (need h.conf (sizeH hd))) h.space (sizeH hd)).1=tookP h.pages (first h.pages (need h.conf (sizeH hd))).toNat (need h.conf (sizeH hd)).toNat ⟨2,h.space,sizeH hd,0⟩ ⟨3,h.space,0,0⟩:=by
    rw[Z2d,if_pos ⟨g1,by omega⟩,Z2n,if_pos (by omega),if_pos g3]
   have e8:Z0m h (sizeH hd) (need h.conf (sizeH hd))=(⟨h.conf,h.words,tookP h.pages (first h.pages (need h.conf (sizeH hd))).toNat (need h.conf (sizeH hd)).toNat ⟨2,h.space,sizeH hd,0⟩ ⟨3,h.space,0,0⟩,h.space,h.bump⟩,4096+first h.pages (need h.conf (sizeH hd))*h.conf.pw,true):=by rw[Z0m,if_pos hg,el]
   have hf:∀ j,j<(need h.conf (sizeH hd)).toNat→(h.pages.getD ((first h.pages (need h.conf (sizeH hd))).toNat+j) default).kind=0:=freeK_iff.1 g3
   have hu:=Z4K g1
   rw[e8]at fin ⊢
   simp only at fin ⊢
   generalize hk:need h.conf (sizeH hd)=k at *
   generalize hfi:first h.pages k=f at *
   have hge:∀ j,(tookP h.pages f.toNat k.toNat ⟨2,h.space,sizeH hd,0⟩ ⟨3,h.space,0,0⟩).getD j default=if j=f.toNat then⟨2,h.space,sizeH hd,0⟩else if f.toNat<j∧j<f.toNat+k.toNat then⟨3,h.space,0,0⟩else h.pages.getD j default:=Z6h (by omega) (by omega)
   have h0:=hf 0 (by omega)
   rw[Nat.add_zero]at h0
   refine fin f.toNat (by omega) ?_ ?_ ?_ ?_ ?_
   ·intro j hj1 hj2
    rw[hge,if_neg hj2]
    split
    ·rename_i q
     have:=hf (j-f.toNat) (by omega)
     rw[show f.toNat+(j-f.toNat)=j by omega]at this
     exact Or.inr ⟨this,rfl,rfl⟩
    ·exact Or.inl rfl
   ·rw[hge,if_pos rfl]
    refine Or.inr ⟨h0,rfl, ?_,rfl⟩
    rw[bsP,Int.toNat_of_nonneg (by omega)]
   ·rw[hge,if_pos rfl]
   ·refine Z5W (Z6D (by omega)) fun j hj1 q1 q2=>?_
    rw[hge]at q1 q2
    split at q1
    ·simp at q1
    ·rename_i c1
     rw[if_neg c1]at q2
     split at q1
     ·simp at q1
     ·rename_i c2
      rw[if_neg c2]at q2
      exact⟨q1,q2⟩
   ·intro j x hx
    have o:=g.on hx
    have hr:=Z0i h.words x
    unfold bsP at o
    have hfe:((f.toNat:Nat):Int)=f:=by omega
    by_cases q:j<f.toNat
    ·have:=Z48 g.p q (by omega) o.2.1 (by omega)
     rw[hfe]at this
     omega
    ·have hjk:f.toNat+k.toNat≤j:=by
      by_cases q2:f.toNat+k.toNat≤j
      ·exact q2
      ·have:=hf (j-f.toNat) (by omega)
       rw[show f.toNat+(j-f.toNat)=j by omega]at this
       omega
     have:=Int.mul_le_mul_of_nonneg_right (show f+k≤(j:Int) by omega) (show 0≤h.conf.pw by omega)
     rw[Int.add_mul]at this
     omega
  ·rw[Z0m,if_neg hg]at k4
   simp at k4
 ·have e7:put7 h hd=Z0d h (sizeH hd):=by rw[put7,if_neg hn]
  have hsm:=Zg2 hn a4
  have hsw:Z00 h.conf≤h.conf.pw:=by
   rw[Z00,if_pos p1,Int.tdiv_eq_ediv_of_nonneg (by omega)]
   omega
  rw[e7]at k4 fin ⊢
  by_cases hf:Z6r h (sizeH hd)
  ·have e8:Z0d h (sizeH hd)=(⟨h.conf,h.words,Z24 h.pages h.bump.toNat (sizeH hd),h.space,h.bump⟩,4096+h.bump*h.conf.pw+(h.pages.getD h.bump.toNat default).used,true):=by rw[Z0d,if_pos hf]
   unfold Z6r at hf
   have hbi:h.bump.toNat<h.pages.length:=by omega
   have hk:(h.pages.getD h.bump.toNat default).kind=1:=by omega
   have hbe:((h.bump.toNat:Nat):Int)=h.bump:=by omega
   have hoc:occP (h.pages.getD h.bump.toNat default)=(h.pages.getD h.bump.toNat default).used:=by rw[occP,if_neg (by omega)]
   rw[e8,Z3C]at fin
   rw[e8]
   simp only at fin ⊢
   refine fin h.bump.toNat hbi ?_ ?_ ?_ ?_ ?_
   ·intro j hj1 hj2
    rw[Z0p hbi,if_neg (fun q=>hj2 q.symm)]
    exact Or.inl rfl
   ·rw[Z0p hbi,if_pos rfl,hoc]
    refine Or.inl ⟨Or.inr hk,hk, ?_,rfl,hsm⟩
    rw[bsP,hbe]
   ·rw[Z0p hbi,if_pos rfl]
    exact hf.2.1
   ·refine Z5W (by rw[List.length_set]) fun j hj1 q1 q2=>?_
    rw[Z0p hbi]at q1 q2
    split at q1
    ·rename_i c
     rw[if_pos c]at q2
     subst c
     exact⟨q1,q2⟩
    ·rename_i c
     rw[if_neg c]at q2
     exact⟨q1,q2⟩
   ·intro j x hx
    have:=g.free hbi (Or.inr hk) hx
    rw[hoc,bsP,hbe]at this
    omega
  ·by_cases hg:0≤first h.pages 1∧(Z1P h.pages:Int)<Z26 h.conf
   ·have e8:Z0d h (sizeH hd)=(⟨h.conf,h.words,Z24 (Z2K h) (first h.pages 1).toNat (sizeH hd),h.space,first h.pages 1⟩,4096+first h.pages 1*h.conf.pw+((Z2K h).getD (first h.pages 1).toNat default).used,true):=by rw[Z0d,if_neg hf,if_pos hg]
    obtain⟨g1,g2,g3⟩:=Z3l p4 hg.1 (sizeH hd)
    have g4:=congrArg Page.used (Z2H p4 hg.1).2.2.2
    simp only at g4
    have hbe:(((first h.pages 1).toNat:Nat):Int)=first h.pages 1:=by omega
    have hoc:occP (h.pages.getD (first h.pages 1).toNat default)=0:=by rw[occP,if_pos g2]
    rw[e8,g1,g4]at fin
    rw[e8,g4]
    simp only at fin ⊢
    refine fin (first h.pages 1).toNat g3 ?_ ?_ ?_ ?_ ?_
    ·intro j hj1 hj2
     rw[Z0p g3,if_neg (fun q=>hj2 q.symm)]
     exact Or.inl rfl
    ·rw[Z0p g3,if_pos rfl,hoc]
     refine Or.inl ⟨Or.inl g2,rfl, ?_,by simp,hsm⟩
     rw[bsP,hbe]
    ·rw[Z0p g3,if_pos rfl]
    ·refine Z5W (by rw[List.length_set]) fun j hj1 q1 q2=>?_
     rw[Z0p g3]at q1 q2
     split at q1
     ·rename_i c
      rw[if_pos c]at q2
      simp at q2
     ·rename_i c
      rw[if_neg c]at q2
      exact⟨q1,q2⟩
    ·intro j x hx
     have:=g.free g3 (Or.inl g2) hx
     rw[hoc,bsP,hbe]at this
     omega
   ·rw[Z0d,if_neg hf,if_neg hg]at k4
    simp at k4
def RtOb(h:Heap)(T:Nat→List Int)(l:List Int):Prop:=∀ r∈l,r=0∨Ob h T r
def WG(w:WorldM):Prop:=∃ T,Gd w.heap T∧RtOb w.heap T w.strong∧RtOb w.heap T w.weak
theorem NewOk.ob{h h':Heap}{T:Nat→List Int}{hd:Header}{i:Nat}{a:Int}(n:NewOk h h' T hd i a){x:Int}(hx:Ob h T x):Ob h' (fun j=>if j=i then T i++[a]else T j) x:=by
 obtain⟨j,hj,hk⟩:=hx
 have r:=Z0i h.words x
 have o:=Z27 (ws:=h.words) (ws':=h'.words) (a:=x) (by rw[n.o x (by have:=n.d j x hj;omega)])
 refine⟨j, ?_,by rw[o.2.2.1];exact hk⟩
 show x∈(if j=i then T i++[a]else T j)
 split
 ·rename_i q;subst q;exact List.mem_append_left _ hj
 ·exact hj
theorem NewOk.ob0{h h':Heap}{T:Nat→List Int}{hd:Header}{i:Nat}{a:Int}(n:NewOk h h' T hd i a):Ob h' (fun j=>if j=i then T i++[a]else T j) a :=
 ⟨i,by simp,n.k⟩
theorem WG.put{w:WorldM}(h:WG w)(hw:WOk w.heap.words){hd:Header}(hm:0≤hd.map∧hd.map≤4294967295):WG (w.put hd):=by
 unfold WorldM.put
 split
 ·rename_i e
  obtain⟨T,g,g1,g2⟩:=h
  obtain⟨i,n⟩:=g.newOk hw hm e
  refine⟨_,n.g,fun r hr=>?_,fun r hr=>?_⟩
  ·rcases List.mem_append.1 hr with hr | hr
   ·rcases g1 r hr with q | q
    ·exact Or.inl q
    ·exact Or.inr (n.ob q)
   ·have:=List.mem_singleton.1 hr
    subst this
    exact Or.inr n.ob0
  ·rcases g2 r hr with q | q
   ·exact Or.inl q
   ·exact Or.inr (n.ob q)
 ·exact h
theorem WG.pick{w:WorldM}{T:Nat→List Int}(g1:RtOb w.heap T w.strong)(g2:RtOb w.heap T w.weak)(t:Tape):w.pick t=0∨Ob w.heap T (w.pick t):=by
 rcases Zfc w t with e | e | e
 ·exact Or.inl e
 ·exact g1 _ e
 ·exact g2 _ e
theorem Gd.setf{h:Heap}{T:Nat→List Int}(g:Gd h T)(hw:WOk h.words){a i v:Int}(hv:0≤v∧v≤18446744073709551615)(ha:Ob h T a)(hi:0≤i∧i<(getH h a).1.length)(hp:Z0e (getH h a).1 i=true→v=0∨Ob h T v):Gd (Z0f h a i v).1 T∧∀ x,Ob h T x→Ob (Z0f h a i v).1 T x:=by
 obtain⟨j,hj,hk⟩:=ha
 have f:=g.fields hj hk
 obtain⟨s1,s2,s3⟩:=Z5G hw hv (a:=a) (i:=i) (by rw[f.1]) hi
 rw[f.1]at hi hp
 have q:=g.store (v:=v) ⟨j,hj,hk⟩ hi hp
 rw[s1]
 refine⟨q.1, ?_⟩
 rintro x ⟨m,m1,m2⟩
 refine⟨m,m1, ?_⟩
 have:=(Z27 (q.2 m x m1)).2.2.1
 simp only
 rw[this]
 exact m2
theorem WG.link{w:WorldM}{n:Nat}(h:WG w)(hm:MOk w n)(hn:n≤1000000)(t:Tape):WG (w.link t):=by
 unfold WorldM.link
 split
 ·rename_i hc
  obtain⟨T,g,g1,g2⟩:=h
  have hw:=hm.wm hn
  have gg:=Z3P hc.1
  have n1:=Z0J (w.pickT (w.pickT t)) (n:=8) (by decide)
  have hi:0≤Z1J w t∧Z1J w t<(getH w.heap (w.pick t)).1.length:=by
   unfold Z1J
   rw[Int.tmod_eq_emod_of_nonneg n1.1]
   exact⟨Int.emod_nonneg _ (by omega),Int.emod_lt_of_pos _ (by omega)⟩
  have hv:0≤Z1N w t∧Z1N w t≤18446744073709551615:=by
   unfold Z1N
   split
   ·exact Z2V hw _
   ·have:=Z0J ((w.pickT (w.pickT t)).step 8) (n:=1048576) (by decide)
    omega
  have ho:Ob w.heap T (w.pick t):=by
   rcases WG.pick g1 g2 t with q | q
   ·omega
   ·exact q
  have s:=g.setf hm.words hv ho hi (fun q=>by
   unfold Z1N
   rw[if_pos q]
   exact WG.pick g1 g2 _)
  exact⟨T,s.1,fun r hr=>(g1 r hr).imp id (s.2 r),fun r hr=>(g2 r hr).imp id (s.2 r)⟩
 ·exact h
theorem WG.pinned{w:WorldM}(h:WG w){i:Nat}{d:Int}(hp:Z02 (pinB w i d).heap=true)(hi:i<w.heap.pages.length)(hd:d=-1∨0<(w.heap.pages.getD i default).pins∨(w.heap.pages.getD i default).kind=2∨(crowd w.heap.pages:Int)<w.heap.conf.pg/4):WG (pinB w i d):=by
 obtain⟨T,g,g1,g2⟩:=h
 have pp:=Z0T g.p hi
 have ks:∀ j,j<w.heap.pages.length→((pinB w i d).heap.pages.getD j default).kind=(w.heap.pages.getD j default).kind∧((pinB w i d).heap.pages.getD j default).space=(w.heap.pages.getD j default).space∧((pinB w i d).heap.pages.getD j default).used=(w.heap.pages.getD j default).used:=by
  intro j hj
  simp only[pinB]
  rw[Z0p hi]
  split
  ·rename_i q;subst q;exact⟨rfl,rfl,rfl⟩
  ·exact⟨rfl,rfl,rfl⟩
 have hcr:(crowd (pinB w i d).heap.pages:Int)≤w.heap.conf.pg/4:=by
  have c0:=g.cr
  have mono:(0<(w.heap.pages.getD i default).pins+d→(w.heap.pages.getD i default).kind=1→0<(w.heap.pages.getD i default).pins)→(crowd (pinB w i d).heap.pages:Int)≤w.heap.conf.pg/4:=by
   intro hh
   have:crowd (pinB w i d).heap.pages≤crowd w.heap.pages:=by
    refine Z5W (by simp[pinB]) fun j hj q1 q2=>?_
    simp only[pinB]at q1 q2
    rw[Z0p hi]at q1 q2
    split at q1
    ·rename_i c
     rw[if_pos c]at q2
     subst c
     exact⟨q1,hh q2 q1⟩
    ·rename_i c
     rw[if_neg c]at q2
     exact⟨q1,q2⟩
   omega
  rcases hd with q | q | q | q
  ·exact mono (by omega)
  ·exact mono (by omega)
  ·exact mono (by omega)
  ·have:=(Z9Q (p:=⟨(w.heap.pages.getD i default).kind,(w.heap.pages.getD i default).space,(w.heap.pages.getD i default).used,(w.heap.pages.getD i default).pins+d⟩) hi w.heap.pages.length).1
   have e:crowd (pinB w i d).heap.pages=Z0r (w.heap.pages.set i ⟨(w.heap.pages.getD i default).kind,(w.heap.pages.getD i default).space,(w.heap.pages.getD i default).used,(w.heap.pages.getD i default).pins+d⟩) w.heap.pages.length:=by
    simp only[crowd,pinB,List.length_set]
   have e2:crowd w.heap.pages=Z0r w.heap.pages w.heap.pages.length:=rfl
   omega
 exact⟨T,g.pages hp rfl rfl rfl (by simp[pinB]) ks hcr,g1,g2⟩
theorem WG.pin{w:WorldM}{n:Nat}(h:WG w)(hp:POk w)(hm:MOk w n)(hn:n≤1000000)(t:Tape):WG (w.pin t):=by
 have p1:=(hp.pin hm hn t).p
 unfold WorldM.pin at p1 ⊢
 split
 ·rename_i e
  rw[if_pos e]at p1
  have o:=Z3F hm.hv e
  have hpl:=hm.pl
  have hi:pinI w t<w.heap.pages.length:=by unfold pinI;omega
  split
  ·rename_i c
   rw[if_pos c]at p1
   exact h.pinned p1 hi (Or.inl rfl)
  ·rename_i c
   rw[if_neg c]at p1
   split
   ·rename_i c2
    rw[if_pos c2]at p1
    exact h.pinned p1 hi (Or.inr c2)
   ·exact h
 ·exact h
theorem WG.drop{w:WorldM}(h:WG w)(t:Tape):WG (w.drop t):=by
 unfold WorldM.drop
 split
 ·rename_i hl
  obtain⟨T,g,g1,g2⟩:=h
  have n1:=Z0J t (n:=(w.strong.length:Int)) (by omega)
  refine⟨T,g,fun r hr=>?_,fun r hr=>?_⟩
  ·rcases List.mem_append.1 hr with hr | hr
   ·exact g1 r (List.mem_of_mem_take hr)
   ·exact g1 r (List.mem_of_mem_drop hr)
  ·simp only at hr
   split at hr
   ·rcases List.mem_append.1 hr with hr | hr
    ·exact g2 r hr
    ·simp only[List.mem_singleton]at hr
     subst hr
     refine g1 _ (getD_mem_iff.2 ⟨_, ?_,rfl⟩)
     unfold Zhj
     omega
   ·exact g2 r hr
 ·exact h
theorem WG.dup{w:WorldM}(h:WG w)(t:Tape):WG (w.dup t):=by
 obtain⟨T,g,g1,g2⟩:=h
 refine⟨T,g,fun r hr=>?_,g2⟩
 rcases List.mem_append.1 hr with hr | hr
 ·exact g1 r hr
 ·simp only[List.mem_singleton]at hr
  subst hr
  exact WG.pick g1 g2 _
theorem ZjZ(t:Tape):WG t.empty:=by
 have hpr:=(Zbn t).p
 have hv:=Z2J t
 have hb:=validB_iff.1 hv
 have hz:∀ j,(t.empty.heap.pages.getD j default).kind=0∧(t.empty.heap.pages.getD j default).pins=0:=by
  intro j
  simp only[Tape.empty,Z2W,List.getD_eq_getElem?_getD,List.getElem?_replicate]
  split
  ·exact⟨rfl,rfl⟩
  ·exact⟨rfl,rfl⟩
 refine⟨fun _=>[],⟨hpr, ?_, ?_, ?_,by simp, ?_,by simp, ?_⟩,by simp[RtOb,Tape.empty],by simp[RtOb,Tape.empty]⟩
 ·intro i _ hk
  exact absurd (hz i).1 hk
 ·intro i _ hk
  rw[(hz i).1]at hk
  omega
 ·intro i _ hk
  rw[(hz i).1]at hk
  omega
 ·intro a ha
  exfalso
  apply ha
  show(loadA (List.replicate (t.conf.pw*t.conf.pg).toNat 0) a).1=0
  unfold loadA
  by_cases c:4096≤a∧a<4096+((List.replicate (t.conf.pw*t.conf.pg).toNat (0:Int)).length:Int)
  ·rw[if_pos c]
   simp only[List.getD_eq_getElem?_getD,List.getElem?_replicate]
   split<;>rfl
  ·rw[if_neg c]
 ·have:crowd t.empty.heap.pages=0:=by
   have h0:∀ n,Z0r t.empty.heap.pages n=0:=by
    intro n
    induction n with
    | zero=>rfl
    | succ n ih =>
     unfold Z0r
     rw[ih,if_neg (by rw[(hz n).1];omega)]
   exact h0 _
  rw[this]
  show(0:Int)≤t.conf.pg/4
  omega
theorem Z9F{w:Work}{n:Int}(hw:WkOk w)(hn:1≤n∧n≤w.heap.conf.pw)(h:(w.place n).2.2=true) :
  ∃ (i:Nat) (p:Page) (t:List Int),i<w.heap.pages.length∧((w.heap.pages.getD i default).kind=0∧t=w.taken++[(i:Int)]∧p.pins=0∨(i:Int)∈w.taken∧(w.heap.pages.getD i default).kind=1∧t=w.taken∧p.pins=(w.heap.pages.getD i default).pins)∧p.kind=1∧p.used=occP (w.heap.pages.getD i default)+n∧occP (w.heap.pages.getD i default)+n≤w.heap.conf.pw∧0≤occP (w.heap.pages.getD i default)∧(w.place n).2.1=4096+i*w.heap.conf.pw+occP (w.heap.pages.getD i default) ∧
  (w.place n).1=⟨⟨w.heap.conf,w.heap.words,w.heap.pages.set i p,w.heap.space,w.heap.bump⟩,w.old,t,w.queue,w.scanned,w.rep⟩:=by
 by_cases hf:Z4x w n
 ·have e:w.place n=(⟨⟨w.heap.conf,w.heap.words,Z24 w.heap.pages (Z0Y w).toNat n,w.heap.space,w.heap.bump⟩,w.old,w.taken,w.queue,w.scanned,w.rep⟩,4096+Z0Y w*w.heap.conf.pw+(w.heap.pages.getD (Z0Y w).toNat default).used,true):=by rw[Work.place,if_pos hf]
  unfold Z4x at hf
  have hm:=hw.tk _ (Z1w hf.1)
  have hu:=hw.us (Z0Y w).toNat (by omega)
  have hoc:occP (w.heap.pages.getD (Z0Y w).toNat default)=(w.heap.pages.getD (Z0Y w).toNat default).used:=by rw[occP,if_neg (by omega)]
  have hle:(((Z0Y w).toNat:Nat):Int)=Z0Y w:=by omega
  refine⟨(Z0Y w).toNat,⟨(w.heap.pages.getD (Z0Y w).toNat default).kind,(w.heap.pages.getD (Z0Y w).toNat default).space,(w.heap.pages.getD (Z0Y w).toNat default).used+n,(w.heap.pages.getD (Z0Y w).toNat default).pins⟩,w.taken,by omega,Or.inr ⟨by rw[hle];exact Z1w hf.1,hm.2.2,rfl,rfl⟩,hm.2.2, ?_,by rw[hoc];omega,by rw[hoc];omega, ?_, ?_⟩
  ·rw[hoc]
  ·rw[e,hoc,hle]
  ·rw[e,Z3C]
 ·by_cases hg:0≤Z0w w
  ·have e:w.place n=(⟨⟨w.heap.conf,w.heap.words,Z24 (Z2F w) (Z0w w).toNat n,w.heap.space,w.heap.bump⟩,w.old,w.taken++[Z0w w],w.queue,w.scanned,w.rep⟩,4096+Z0w w*w.heap.conf.pw,true):=by rw[Work.place,if_neg hf,if_pos hg]
   obtain⟨g1,g2,g3⟩:=Z3l (h:=⟨w.heap.conf,w.heap.words,w.heap.pages,1-w.heap.space,w.heap.bump⟩) (by have:=hw.sp;simp only;omega) hg n
   have g1':Z24 (Z2F w) (Z0w w).toNat n=w.heap.pages.set (Z0w w).toNat ⟨1,1-w.heap.space,n,0⟩:=g1
   have g2':(w.heap.pages.getD (Z0w w).toNat default).kind=0:=g2
   have g3':(Z0w w).toNat<w.heap.pages.length:=g3
   have hoc:occP (w.heap.pages.getD (Z0w w).toNat default)=0:=by rw[occP,if_pos g2']
   have hle:(((Z0w w).toNat:Nat):Int)=Z0w w:=by omega
   refine⟨(Z0w w).toNat,⟨1,1-w.heap.space,n,0⟩,w.taken++[Z0w w],g3',Or.inl ⟨g2',by rw[hle],rfl⟩,rfl,by rw[hoc];simp,by rw[hoc];omega,by rw[hoc];omega, ?_, ?_⟩
   ·rw[e,hoc,hle];simp
   ·rw[e,g1']
  ·rw[Work.place,if_neg hf,if_neg hg]at h
   simp at h
structure KI (h:Heap) (T tq:Nat→List Int) (w:Work):Prop where
 c:w.heap.conf=h.conf
 sp:w.heap.space=h.space
 old:∀ x,x∈w.old↔Ob h T x
 pl:w.heap.pages.length=h.pages.length
 wl:w.heap.words.length=h.words.length
 pg:∀ i:Nat,(i:Int)∉w.taken→(w.heap.pages.getD i default).kind=(h.pages.getD i default).kind∧(w.heap.pages.getD i default).used=(h.pages.getD i default).used∧(w.heap.pages.getD i default).pins=(h.pages.getD i default).pins
 tk:∀ i:Nat,(i:Int)∈w.taken→i<h.pages.length∧(h.pages.getD i default).kind=0∧(w.heap.pages.getD i default).kind=1∧(w.heap.pages.getD i default).pins=0∧(w.heap.pages.getD i default).used≤h.conf.pw∧tile w.heap.words (bsP h i) (bsP h i+(w.heap.pages.getD i default).used) (tq i)∧∀ x∈tq i,x∈w.queue∧kdA w.heap.words x≠0∧hlA w.heap.words x+1≤Z00 h.conf
 tk0:∀ i:Nat,(i:Int)∉w.taken→tq i=[]
 q:∀ x∈w.queue,(∃ i:Nat,(i:Int)∉w.taken∧x∈T i∧kdA h.words x≠0∧(w.heap.pages.getD i default).space≠w.heap.space)∨(∃ i:Nat,(i:Int)∈w.taken∧x∈tq i)
 hd:∀ i x,x∈T i→(loadA w.heap.words x).1=(loadA h.words x).1∨((Z0o (loadA w.heap.words x).1).2=true∧(w.heap.pages.getD i default).kind=1∧(w.heap.pages.getD i default).space=w.heap.space)
 dt:∀ a,(loadA w.heap.words a).1≠0→(∃ i x,x∈T i∧x≤a∧a<x+kpA h.words x)∨(∃ i:Nat,(i:Int)∈w.taken∧bsP h i≤a∧a<bsP h i+(w.heap.pages.getD i default).used)
 lg:∀ i:Nat,(h.pages.getD i default).kind=2→(w.heap.pages.getD i default).space≠w.heap.space→bsP h i∈w.queue
section
variable {h:Heap} {T:Nat→List Int} (g:Gd h T)
include g
theorem KI.nt{tq:Nat→List Int}{w:Work}(k:KI h T tq w){i:Nat}{x:Int}(hx:x∈T i):(i:Int)∉w.taken:=by
 intro q
 have:=(k.tk i q).2.1
 have:=(g.t0 i x hx).2
 omega
theorem KI.sepT{tq:Nat→List Int}{w:Work}(k:KI h T tq w){i j:Nat}{x y:Int}(hi:(i:Int)∈w.taken)(hx:x∈tq i)(hy:y∈T j):bsP h i≤x∧x+hlA w.heap.words x<bsP h i+h.conf.pw∧(y+hlA h.words y<bsP h i∨bsP h i+h.conf.pw≤y):=by
 have t:=k.tk i hi
 have m:=Z1D t.2.2.2.2.2.1 hx
 have f:=g.free t.1 (Or.inl t.2.1) hy
 rw[occP,if_pos t.2.1]at f
 exact⟨m.2.1,by omega,by omega⟩
omit g in
theorem KI.sepQ(g:Gd h T){tq:Nat→List Int}{w:Work}(k:KI h T tq w){i j:Nat}{x y:Int}(hi:(i:Int)∈w.taken)(hx:x∈tq i)(hj:(j:Int)∈w.taken)(hy:y∈tq j)(hxy:x<y):x+hlA w.heap.words x<y:=by
 have t:=k.tk i hi
 have u:=k.tk j hj
 have m:=Z1D t.2.2.2.2.2.1 hx
 have n:=Z1D u.2.2.2.2.2.1 hy
 have po:=Z07 g.p
 have r:=Z0i w.heap.words y
 unfold bsP at m n
 rcases Nat.lt_trichotomy i j with q | q | q
 ·have:=Z0W (i:=i) (j:=j) (pw:=h.conf.pw) (by omega) (by omega)
  omega
 ·subst q
  exact ZaZ t.2.2.2.2.2.1 hx hy hxy
 ·have:=Z0W (i:=j) (j:=i) (pw:=h.conf.pw) (by omega) (by omega)
  omega
theorem KI.withWords{tq:Nat→List Int}{w:Work}(k:KI h T tq w){l:List Int}(hl:l.length=w.heap.words.length)(h1:∀ i x,x∈T i→(loadA l x).1=(loadA w.heap.words x).1)(h2:∀ (i:Nat) x,(i:Int)∈w.taken→x∈tq i→(loadA l x).1=(loadA w.heap.words x).1)
  (h3:∀ a,(loadA l a).1≠0→(loadA w.heap.words a).1≠0∨(∃ i x,x∈T i∧x≤a∧a<x+kpA h.words x)∨(∃ i:Nat,(i:Int)∈w.taken∧bsP h i≤a∧a<bsP h i+(w.heap.pages.getD i default).used)) :
  KI h T tq ⟨⟨w.heap.conf,l,w.heap.pages,w.heap.space,w.heap.bump⟩,w.old,w.taken,w.queue,w.scanned,w.rep⟩:=by
 refine⟨k.c,k.sp,k.old,k.pl,hl.trans k.wl,k.pg, ?_,k.tk0,k.q, ?_, ?_,k.lg⟩
 ·intro i hi
  obtain⟨t1,t2,t3,t4,t5,t6,t7⟩:=k.tk i hi
  have ky:=fun x hx=>Z27 (h2 i x hi hx)
  refine⟨t1,t2,t3,t4,t5,Z2j t6 fun x hx=>⟨(ky x hx).1 (Z1D t6 hx).1,(ky x hx).2.1⟩,fun x hx=>?_⟩
  have:=t7 x hx
  simp only
  rw[(ky x hx).2.2.1,(ky x hx).2.1]
  exact this
 ·intro i x hx
  simp only
  rw[h1 i x hx]
  exact k.hd i x hx
 ·intro a ha
  rcases h3 a ha with q | q
  ·exact k.dt a q
  ·exact q
theorem KI.keep{tq:Nat→List Int}{w:Work}(k:KI h T tq w){r:Int}{i:Nat}(hi:r∈T i)(hk:kdA h.words r≠0)(hs:(w.heap.pages.getD i default).space≠w.heap.space):KI h T tq (w.keep r):=by
 refine⟨k.c,k.sp,k.old,k.pl,k.wl,k.pg, ?_,k.tk0, ?_,k.hd,k.dt, ?_⟩
 ·intro j hj
  obtain⟨t1,t2,t3,t4,t5,t6,t7⟩:=k.tk j hj
  exact⟨t1,t2,t3,t4,t5,t6,fun x hx=>⟨List.mem_append_left _ (t7 x hx).1,(t7 x hx).2⟩⟩
 ·intro x hx
  simp only[Work.keep,List.mem_append,List.mem_singleton]at hx
  rcases hx with hx | rfl
  ·exact k.q x hx
  ·exact Or.inl ⟨i,k.nt g hi,hi,hk,hs⟩
 ·intro j h1 h2
  exact List.mem_append_left _ (k.lg j h1 h2)
theorem KI.flip{tq:Nat→List Int}{w:Work}(k:KI h T tq w)(hw:WkOk w){r:Int}{i:Nat}(hi:r∈T i)(hk:kdA h.words r≠0)(h2:(w.heap.pages.getD i default).kind=2):KI h T tq ((w.flip i).keep r):=by
 have hil:=(g.t0 i r hi).1
 have hpl:=k.pl
 have hsp:=hw.sp
 have hu:∀ j,((Z0I w.heap.pages i (Z0y w.heap.pages i) (1-w.heap.space)).getD j default).kind=(w.heap.pages.getD j default).kind∧((Z0I w.heap.pages i (Z0y w.heap.pages i) (1-w.heap.space)).getD j default).used=(w.heap.pages.getD j default).used∧((Z0I w.heap.pages i (Z0y w.heap.pages i) (1-w.heap.space)).getD j default).pins=(w.heap.pages.getD j default).pins:=by
  intro j
  by_cases hj:j<w.heap.pages.length
  ·rw[Z1x hj]
   split
   ·exact⟨rfl,rfl,rfl⟩
   ·exact⟨rfl,rfl,rfl⟩
  ·rw[List.getD_eq_getElem?_getD,List.getD_eq_getElem?_getD,List.getElem?_eq_none (by rw[Z1A];omega),List.getElem?_eq_none (by omega)]
   exact⟨rfl,rfl,rfl⟩
 have hs1:∀ j,(w.heap.pages.getD j default).kind=1→((Z0I w.heap.pages i (Z0y w.heap.pages i) (1-w.heap.space)).getD j default).space=(w.heap.pages.getD j default).space:=by
  intro j hj
  by_cases hjl:j<w.heap.pages.length
  ·rw[Z1x hjl]
   split
   ·rename_i c
    exfalso
    by_cases q:j=i
    ·subst q;omega
    ·have:=(Z8y (l:=w.heap.pages) (i:=i) (m:=j-i-1) (by omega)).2
     rw[show i+1+(j-i-1)=j by omega]at this
     omega
   ·rfl
  ·rw[List.getD_eq_getElem?_getD,List.getD_eq_getElem?_getD,List.getElem?_eq_none (by rw[Z1A];omega),List.getElem?_eq_none (by omega)]
 have hs2:∀ j,(w.heap.pages.getD j default).space≠w.heap.space→((Z0I w.heap.pages i (Z0y w.heap.pages i) (1-w.heap.space)).getD j default).space≠w.heap.space:=by
  intro j hj
  by_cases hjl:j<w.heap.pages.length
  ·rw[Z1x hjl]
   split
   ·simp only[ZcV];omega
   ·exact hj
  ·rw[List.getD_eq_getElem?_getD,List.getElem?_eq_none (by rw[Z1A];omega)]
   rw[List.getD_eq_getElem?_getD,List.getElem?_eq_none (by omega)]at hj
   exact hj
 have hs3:∀ j,(w.heap.pages.getD j default).kind=2→j≠i→((Z0I w.heap.pages i (Z0y w.heap.pages i) (1-w.heap.space)).getD j default).space=(w.heap.pages.getD j default).space:=by
  intro j hj hne
  by_cases hjl:j<w.heap.pages.length
  ·rw[Z1x hjl]
   split
   ·rename_i c
    exfalso
    have:=(Z8y (l:=w.heap.pages) (i:=i) (m:=j-i-1) (by omega)).2
    rw[show i+1+(j-i-1)=j by omega]at this
    omega
   ·rfl
  ·rw[List.getD_eq_getElem?_getD,List.getElem?_eq_none (by omega)]at hj
   have d:(default:Page).kind=0:=rfl
   simp only[Option.getD_none]at hj
   omega
 have hsi:((Z0I w.heap.pages i (Z0y w.heap.pages i) (1-w.heap.space)).getD i default).space≠w.heap.space:=by
  rw[Z1x (by omega),if_pos ⟨Nat.le_refl _,Nat.le_add_right _ _⟩]
  simp only[ZcV]
  omega
 have kf:KI h T tq ⟨⟨w.heap.conf,w.heap.words,Z0I w.heap.pages i (Z0y w.heap.pages i) (1-w.heap.space),w.heap.space,w.heap.bump⟩,w.old,w.taken,w.queue++[r],w.scanned,w.rep⟩:=by
  refine⟨k.c,k.sp,k.old,by simp only[Z1A];exact k.pl,k.wl, ?_, ?_,k.tk0, ?_, ?_, ?_, ?_⟩
  ·intro j hj
   simp only[hu]
   exact k.pg j hj
  ·intro j hj
   simp only[hu]
   obtain⟨t1,t2,t3,t4,t5,t6,t7⟩:=k.tk j hj
   exact⟨t1,t2,t3,t4,t5,t6,fun x hx=>⟨List.mem_append_left _ (t7 x hx).1,(t7 x hx).2⟩⟩
  ·intro x hx
   simp only[List.mem_append,List.mem_singleton]at hx
   rcases hx with hx | rfl
   ·rcases k.q x hx with⟨j,j1,j2,j3,j4⟩ | q
    ·exact Or.inl ⟨j,j1,j2,j3,hs2 j j4⟩
    ·exact Or.inr q
   ·exact Or.inl ⟨i,k.nt g hi,hi,hk,hsi⟩
  ·intro j x hx
   rcases k.hd j x hx with q | q
   ·exact Or.inl q
   ·refine Or.inr ⟨q.1, ?_, ?_⟩
    ·simp only[hu];exact q.2.1
    ·simp only;rw[hs1 j q.2.1];exact q.2.2
  ·intro a ha
   simp only[hu]
   exact k.dt a ha
  ·intro j h1 h2'
   simp only at h2' ⊢
   by_cases q:j=i
   ·subst q
    have:=(g.on hi).2.2.2.2.2.2 h1
    rw[← this.1]
    simp
   ·have hjt:(j:Int)∉w.taken:=fun q=>by have:=(k.tk j q).2.1;omega
    rw[hs3 j (by rw[(k.pg j hjt).1];exact h1) q]at h2'
    exact List.mem_append_left _ (k.lg j h1 h2')
 exact⟨kf.c,kf.sp,kf.old,kf.pl,kf.wl,kf.pg,kf.tk,kf.tk0,kf.q,kf.hd,kf.dt,kf.lg⟩
end
section
variable {h:Heap} {T:Nat→List Int} (g:Gd h T)
include g
theorem KI.copy{tq:Nat→List Int}{w:Work}(k:KI h T tq w)(hw:WkOk w){r n:Int}{i0:Nat}(hr:r∈T i0)(hkd:kdA h.words r≠0)(h1:(h.pages.getD i0 default).kind=1)(hs:(w.heap.pages.getD i0 default).space=w.heap.space)(he:(loadA w.heap.words r).1=(loadA h.words r).1)
  (hn:n=hlA w.heap.words r+1) (hp:n≤w.heap.conf.pw) (hc:(w.place n).2.2=true):∃ tq',KI h T tq' ((w.place n).1.copy r (w.place n).2.1 n):=by
 have hlr:=Z0i w.heap.words r
 have ey:=Z27 he
 obtain⟨i,p,t,p1,p2,p3,p4,p5,p6,p7,e⟩:=Z9F hw ⟨by omega,hp⟩ hc
 have hcc:=k.c
 have hpl:=k.pl
 have hwl:=k.wl
 have po:=Z07 g.p
 have hin:=g.inw hr
 have hki:(h.pages.getD i default).kind=0:=by
  rcases p2 with q | q
  ·by_cases c:(i:Int)∈w.taken
   ·exact(k.tk i c).2.1
   ·rw[← (k.pg i c).1];exact q.1
  ·exact(k.tk i q.1).2.1
 have hio:=Z0W (i:=i) (j:=h.conf.pg) (pw:=h.conf.pw) (by omega) (by omega)
 rw[Int.mul_comm h.conf.pg]at hio
 have hi0:0≤(i:Int)*h.conf.pw:=Int.mul_nonneg (by omega) (by omega)
 rw[hcc]at p5 p7 hp
 have hbp:4096+(i:Int)*h.conf.pw=bsP h i:=rfl
 rw[e,p7,hbp]
 generalize hu:occP (w.heap.pages.getD i default)=u at *
 generalize ha:bsP h i+u=a
 have hbl:4096≤a∧a+n≤4096+w.heap.words.length:=by omega
 have far:∀ j x,x∈T j→x+hlA h.words x<bsP h i∨bsP h i+h.conf.pw≤x:=by
  intro j x hx
  have:=g.free (show i<h.pages.length by omega) (Or.inl hki) hx
  rw[occP,if_pos hki]at this
  omega
 have farr:=far i0 r hr
 obtain⟨m1,m2,m3⟩:=Z7B (ws:=w.heap.words) (a:=a) (b:=r) (n:=n) (by omega) (by omega) (by omega)
 have hsr:4096≤r∧r<4096+(moveA w.heap.words a r n).1.length:=by omega
 have w1:∀ x,x≠r→(x<a∨a+n≤x)→loadA (Z0H (moveA w.heap.words a r n).1 r (4*a+2)).1 x=loadA w.heap.words x:=fun x q1 q2=>by rw[Z0F hsr q1,m3 x q2]
 have w2:(loadA (Z0H (moveA w.heap.words a r n).1 r (4*a+2)).1 r).1=4*a+2:=by rw[Z2B hsr]
 have w3:(loadA (Z0H (moveA w.heap.words a r n).1 r (4*a+2)).1 a).1=(loadA w.heap.words r).1:=by rw[Z0F hsr (by omega),m2]
 have hlen:(Z0H (moveA w.heap.words a r n).1 r (4*a+2)).1.length=w.heap.words.length:=by rw[Z2z hsr,m1]
 have hit:(i:Int)∈t:=by rcases p2 with q | q;(rw[q.2.1];simp);(rw[q.2.2.1];exact q.1)
 have htt:∀ x,x∈t↔x∈w.taken∨x=(i:Int):=by
  intro x
  rcases p2 with q | q
  ·rw[q.2.1];simp
  ·rw[q.2.2.1]
   exact⟨Or.inl,fun c=>c.elim id fun c=>c▸q.1⟩
 have w4:∀ (j:Nat) x,(j:Int)∈w.taken→x∈tq j→x≠r∧(x<a∨a+n≤x)∧(j=i→x+hlA w.heap.words x<a):=by
  intro j x hj hx
  have s:=k.sepT g hj hx hr
  have rx:=Z0i w.heap.words x
  have t:=k.tk j hj
  have m:=Z1D t.2.2.2.2.2.1 hx
  refine⟨by omega, ?_⟩
  rcases Nat.lt_trichotomy j i with q | q | q
  ·have:=Z0W (i:=j) (j:=i) (pw:=h.conf.pw) (by omega) (by omega)
   unfold bsP at s
   rw[← hbp]at ha
   exact⟨Or.inl (by omega),fun q2=>by omega⟩
  ·subst q
   have:u=(w.heap.pages.getD j default).used:=by rw[← hu,occP,if_neg (by omega)]
   exact⟨Or.inl (by omega),fun _=>by omega⟩
  ·have:=Z0W (i:=i) (j:=j) (pw:=h.conf.pw) (by omega) (by omega)
   unfold bsP at s
   rw[← hbp]at ha
   exact⟨Or.inr (by omega),fun q2=>by omega⟩
 have kq:∀ (j:Nat) x,(j:Int)∈w.taken→x∈tq j→(loadA (Z0H (moveA w.heap.words a r n).1 r (4*a+2)).1 x).1=(loadA w.heap.words x).1:=fun j x hj hx=>by
  have:=w4 j x hj hx
  rw[w1 x this.1 this.2.1]
 refine⟨fun j=>if j=i then tq i++[a]else tq j,k.c,k.sp,k.old, ?_, ?_, ?_, ?_, ?_, ?_, ?_, ?_, ?_⟩
 ·simp only[Work.copy,List.length_set];exact k.pl
 ·simp only[Work.copy,hlen];exact k.wl
 ·intro j hj
  simp only[Work.copy]at hj ⊢
  have hj':=fun q=>hj ((htt _).2 (Or.inl q))
  have hne:¬ i=j:=fun q=>hj (q▸hit)
  rw[Z0p p1,if_neg hne]
  exact k.pg j hj'
 ·intro j hj
  simp only[Work.copy]at hj ⊢
  rw[Z0p p1]
  by_cases q:i=j
  ·subst q
   rw[if_pos rfl]
   simp only[if_true]
   have ka:=Z27 (ws:=w.heap.words) (ws':=(Z0H (moveA w.heap.words a r n).1 r (4*a+2)).1) (a:=a)
   have ke:hdA (Z0H (moveA w.heap.words a r n).1 r (4*a+2)).1 a=hdA h.words r:=by rw[hdA,hdA,w3,he]
   have kl:hlA (Z0H (moveA w.heap.words a r n).1 r (4*a+2)).1 a=n-1:=by
    have:hlA (Z0H (moveA w.heap.words a r n).1 r (4*a+2)).1 a=hlA w.heap.words r:=by rw[hlA,hlA,w3]
    omega
   have kk:okA (Z0H (moveA w.heap.words a r n).1 r (4*a+2)).1 a:=by
    have:=(g.on hr).2.2.2.2.2.1
    rw[okA]at this ⊢
    rw[w3,he]
    exact this
   refine⟨by omega,hki,p3, ?_,by omega, ?_, ?_⟩
   ·rcases p2 with q | q
    ·exact q.2.2
    ·rw[q.2.2.2];exact(k.tk i q.1).2.2.2.1
   ·refine Zax (b:=a) ?_ ⟨rfl,kk,by rw[kl];simp only[tile];omega⟩
    by_cases c:(i:Int)∈w.taken
    ·have t:=k.tk i c
     have hue:u=(w.heap.pages.getD i default).used:=by rw[← hu,occP,if_neg (by omega)]
     have t6:=t.2.2.2.2.2.1
     rw[← hue,ha]at t6
     exact Z2j t6 fun x hx=>⟨(Z27 (kq i x c hx)).1 (Z1D t6 hx).1,(Z27 (kq i x c hx)).2.1⟩
    ·rw[k.tk0 i c]
     have hue:u=0:=by
      rcases p2 with q | q
      ·rw[← hu,occP,if_pos q.1]
      ·exact absurd q.1 c
     simp only[tile];omega
   ·intro x hx
    rcases List.mem_append.1 hx with hx | hx
    ·by_cases c:(i:Int)∈w.taken
     ·have t:=(k.tk i c).2.2.2.2.2.2 x hx
      have o:=Z27 (kq i x c hx)
      rw[o.2.2.1,o.2.1]
      exact⟨List.mem_append_left _ t.1,t.2⟩
     ·rw[k.tk0 i c]at hx;simp at hx
    ·have:=List.mem_singleton.1 hx
     subst this
     refine⟨by simp,by rw[kdA,ke];exact hkd, ?_⟩
     have:=(g.t1 i0 (g.t0 i0 r hr).1 h1).2 r hr
     rw[kl]
     have:=ey.2.1
     omega
  ·rw[if_neg q]
   have hj':(j:Int)∈w.taken:=by
    rcases(htt _).1 hj with c | c
    ·exact c
    ·omega
   obtain⟨t1,t2,t3,t4,t5,t6,t7⟩:=k.tk j hj'
   simp only[show ¬ j=i from fun c=>q c.symm,if_false]
   refine⟨t1,t2,t3,t4,t5,Z2j t6 fun x hx=>⟨(Z27 (kq j x hj' hx)).1 (Z1D t6 hx).1,(Z27 (kq j x hj' hx)).2.1⟩,fun x hx=>?_⟩
   have o:=Z27 (kq j x hj' hx)
   rw[o.2.2.1,o.2.1]
   exact⟨List.mem_append_left _ (t7 x hx).1,(t7 x hx).2⟩
 ·intro j hj
  simp only[Work.copy]at hj
  have hne:¬ j=i:=fun q=>hj (q▸hit)
  simp only[hne,if_false]
  exact k.tk0 j fun q=>hj ((htt _).2 (Or.inl q))
 ·intro x hx
  simp only[Work.copy,List.mem_append,List.mem_singleton]at hx ⊢
  rcases hx with hx | rfl
  ·rcases k.q x hx with⟨j,j1,j2,j3,j4⟩ | ⟨j,j1,j2⟩
   ·have hne:¬ i=j:=by
     rintro rfl
     have:=(g.t0 i x j2).2
     omega
    refine Or.inl ⟨j,fun c=>?_,j2,j3,by rw[Z0p p1,if_neg hne];exact j4⟩
    rcases(htt _).1 c with c | c
    ·exact j1 c
    ·omega
   ·refine Or.inr ⟨j,(htt _).2 (Or.inl j1), ?_⟩
    split
    ·rename_i q;subst q;exact List.mem_append_left _ j2
    ·exact j2
  ·exact Or.inr ⟨i,hit,by simp⟩
 ·intro j x hx
  simp only[Work.copy]
  have hne:¬ i=j:=by
   rintro rfl
   have:=(g.t0 i x hx).2
   omega
  rw[Z0p p1,if_neg hne]
  by_cases q:x=r
  ·subst q
   refine Or.inr ⟨by rw[w2,Z9g (by omega) (by omega)], ?_, ?_⟩
   ·have e1:=g.ofx hx
    have e2:=g.ofx hr
    rw[e1]at e2
    have:j=i0:=by simp only[Prod.mk.injEq]at e2;omega
    subst this
    rw[(k.pg j (k.nt g hx)).1]
    exact h1
   ·have e1:=g.ofx hx
    have e2:=g.ofx hr
    rw[e1]at e2
    have:j=i0:=by simp only[Prod.mk.injEq]at e2;omega
    subst this
    exact hs
  ·have f:=far j x hx
   have rx:=Z0i h.words x
   rw[w1 x q (by omega)]
   exact k.hd j x hx
 ·intro b hb
  simp only[Work.copy]at hb ⊢
  by_cases q:a≤b∧b<a+n
  ·exact Or.inr ⟨i,hit,by omega,by rw[Z0p p1,if_pos rfl];omega⟩
  ·by_cases q2:b=r
   ·refine Or.inl ⟨i0,r,hr,by omega, ?_⟩
    rw[kpA,if_neg hkd]
    have:=Z0i h.words r
    omega
   ·rw[w1 b q2 (by omega)]at hb
    rcases k.dt b hb with c | ⟨j,j1,j2,j3⟩
    ·exact Or.inl c
    ·refine Or.inr ⟨j,(htt _).2 (Or.inl j1),j2, ?_⟩
     rw[Z0p p1]
     split
     ·rename_i c
      subst c
      have:=(k.tk i j1).2.2.1
      have:u=(w.heap.pages.getD i default).used:=by rw[← hu,occP,if_neg (by omega)]
      omega
     ·exact j3
 ·intro j h2 hsj
  simp only[Work.copy]at hsj ⊢
  have hne:¬ i=j:=by rintro rfl;omega
  rw[Z0p p1,if_neg hne]at hsj
  exact List.mem_append_left _ (k.lg j h2 hsj)
theorem KI.fwd{tq:Nat→List Int}{w:Work}(k:KI h T tq w)(hw:WkOk w)(hi:Inv w)(r:Int)(e:(w.fwd r).2.2=0):∃ tq',KI h T tq' (w.fwd r).1:=by
 unfold Work.fwd at e ⊢
 split at e
 ·rename_i c1
  rw[if_pos c1]
  exact⟨tq,k⟩
 ·rename_i c1
  rw[if_neg c1]
  split at e
  ·simp at e
  ·rename_i c2
   rw[if_neg c2]
   have c2':r∈w.old:=Decidable.not_not.1 c2
   obtain⟨i0,hr,hkd⟩:=(k.old r).1 c2'
   have ofr:ofA w.heap.conf r=((i0:Int),r-bsP h i0,0):=by rw[k.c];exact g.ofx hr
   have nt:=k.nt g hr
   have pgi:=k.pg i0 nt
   have hil:=(g.t0 i0 r hr).1
   have hki:=(g.t0 i0 r hr).2
   have hpl:=k.pl
   split at e
   ·rename_i c3
    rw[if_pos c3]
    exact⟨tq,k⟩
   ·rename_i c3
    rw[if_neg c3]
    split at e
    ·simp at e
    ·rename_i c4
     rw[if_neg c4]
     split at e
     ·rename_i c5
      rw[if_pos c5]
      simp only[Z1j,decide_eq_true_eq]at c5
      rw[ofr]at c5
      simp only[Int.toNat_natCast]at c5
      exact⟨tq,k.keep g hr hkd c5.2.2.2.1⟩
     ·rename_i c5
      rw[if_neg c5]
      have epw:Z1h w r=i0:=by rw[Z1h,ofr];simp
      split at e
      ·rename_i c6
       rw[if_pos c6]
       rw[epw]at c6 ⊢
       exact⟨tq,k.flip g hw hr hkd c6⟩
      ·rename_i c6
       rw[if_neg c6]
       split at e
       ·simp at e
       ·rename_i c7
        rw[if_neg c7]
        have c7':(w.place (sizeH (hdW w r))).2.2=true:=by simpa using c7
        rw[epw]at c6
        have k1:(h.pages.getD i0 default).kind=1:=by omega
        have hs:(w.heap.pages.getD i0 default).space=w.heap.space:=by
         by_cases q:(w.heap.pages.getD i0 default).space=w.heap.space
         ·exact q
         ·exfalso
          apply c5
          simp only[Z1j,decide_eq_true_eq]
          rw[ofr]
          simp only[Int.toNat_natCast]
          exact⟨by omega,by omega,by omega,q,nt⟩
        have he:(loadA w.heap.words r).1=(loadA h.words r).1:=by
         rcases k.hd i0 r hr with q | q
         ·exact q
         ·exact absurd q.1 c3
        have hz:=hi.z r c2'
        have hp:sizeH (hdW w r)≤w.heap.conf.pw:=by
         rw[Z3v]
         rw[ofr]at hz
         simp only[Int.toNat_natCast]at hz
         rcases hz with hz | hz
         ·exact absurd hz c6
         ·exact hz
        exact k.copy g hw hr hkd k1 hs he (Z3v w r) hp c7'
theorem KI.field{tq:Nat→List Int}{w:Work}(k:KI h T tq w){q j:Int}(hq:q∈w.queue)(hj:0≤j∧j<hlA w.heap.words q) :
  (∀ i x,x∈T i→x≠q+1+j)∧(∀ (i:Nat) x,(i:Int)∈w.taken→x∈tq i→x≠q+1+j)∧((∃ i x,x∈T i∧x≤q+1+j∧q+1+j<x+kpA h.words x)∨(∃ i:Nat,(i:Int)∈w.taken∧bsP h i≤q+1+j∧q+1+j<bsP h i+(w.heap.pages.getD i default).used)):=by
 rcases k.q q hq with⟨i,i1,i2,i3,i4⟩ | ⟨i,i1,i2⟩
 ·have he:(loadA w.heap.words q).1=(loadA h.words q).1:=by
   rcases k.hd i q i2 with c | c
   ·exact c
   ·exact absurd c.2.2 i4
  have o:=Z27 he
  rw[o.2.1]at hj
  refine⟨fun m x hx c=>?_,fun m x hm hx c=>?_,Or.inl ⟨i,q,i2,by omega,by rw[kpA,if_neg i3];omega⟩⟩
  ·have:=g.sep i2 hx (by omega)
   omega
  ·have:=k.sepT g hm hx i2
   have:=Z0i w.heap.words x
   omega
 ·have t:=k.tk i i1
  have m:=Z1D t.2.2.2.2.2.1 i2
  refine⟨fun m x hx c=>?_,fun m x hm hx c=>?_,Or.inr ⟨i,i1,by omega,by omega⟩⟩
  ·have:=k.sepT g i1 i2 hx
   have:=Z0i h.words x
   omega
  ·have:=k.sepQ g i1 i2 hm hx (by omega)
   omega
theorem KI.in1{tq:Nat→List Int}{w:Work}(k:KI h T tq w)(hw:WkOk w)(hi:Inv w){q j:Int}(hq:q∈w.queue)(hj:0≤j∧j<hlA w.heap.words q)(e:(w.fwd (loadA w.heap.words (q+1+j)).1).2.2=0):∃ tq',KI h T tq' (w.in1 (q+1+j)):=by
 obtain⟨tq',k'⟩:=k.fwd g hw hi _ e
 obtain⟨i1,x1⟩:=Z6E hw hi _ e
 have hq1:=x1.q q hq
 have hl1:=x1.l q hq
 have hr:=i1.r q (List.mem_append_right _ hq1)
 have hin:4096≤q+1+j∧q+1+j<4096+(w.fwd (loadA w.heap.words (q+1+j)).1).1.heap.words.length:=by omega
 obtain⟨f1,f2,f3⟩:=k'.field g hq1 (j:=j) (by omega)
 refine⟨tq',k'.withWords g (Z2z hin) (fun i x hx=>?_) (fun i x hm hx=>?_) (fun a ha=>?_)⟩
 ·rw[Z0F hin (f1 i x hx)]
 ·rw[Z0F hin (f2 i x hm hx)]
 ·by_cases c:a=q+1+j
  ·subst c
   exact Or.inr f3
  ·rw[Z0F hin c]at ha
   exact Or.inl ha
theorem KI.begin:KI h T (fun _=>[]) (beginW h):=by
 have hq:∀ j,((h.pages.map (begQ (1-h.space))).getD j default).kind=(h.pages.getD j default).kind∧((h.pages.map (begQ (1-h.space))).getD j default).used=(h.pages.getD j default).used∧((h.pages.map (begQ (1-h.space))).getD j default).pins=(h.pages.getD j default).pins∧((h.pages.getD j default).kind=2→((h.pages.map (begQ (1-h.space))).getD j default).space=(h.pages.getD j default).space):=by
  intro j
  by_cases hj:j<h.pages.length
  ·have:(h.pages.map (begQ (1-h.space))).getD j default=begQ (1-h.space) (h.pages.getD j default):=by simp[List.getD_eq_getElem?_getD,hj]
   rw[this,begQ]
   split
   ·rename_i c
    exact⟨rfl,rfl,rfl,fun q=>by omega⟩
   ·exact⟨rfl,rfl,rfl,fun _=>rfl⟩
  ·rw[List.getD_eq_getElem?_getD,List.getD_eq_getElem?_getD,List.getElem?_eq_none (by simp;omega),List.getElem?_eq_none (by omega)]
   exact⟨rfl,rfl,rfl,fun _=>rfl⟩
 refine⟨rfl,rfl,g.objs.2,by simp[beginW],rfl,fun i _=>⟨(hq i).1,(hq i).2.1,(hq i).2.2.1⟩,by simp[beginW],fun _ _=>rfl,by simp[beginW],fun _ _ _=>Or.inl rfl,fun a ha=>Or.inl (g.d a ha), ?_⟩
 intro i h2 hs
 exfalso
 simp only[beginW]at hs
 rw[(hq i).2.2.2 h2]at hs
 by_cases hi:i<h.pages.length
 ·exact hs (g.sp i hi (by omega))
 ·rw[List.getD_eq_getElem?_getD,List.getElem?_eq_none (by omega)]at h2
  have d:(default:Page).kind=0:=rfl
  simp only[Option.getD_none]at h2
  omega
theorem ZmS{s:List Int}(hw:WOk h.words)(e:(rootsF (beginW h) s).2.2=0)(e2:(allF (rootsF (beginW h) s).1).2=0):∃ tq,KI h T tq (cW2 h s) :=
 ZlZ (fun w=>∃ tq,KI h T tq w) (fun w r hw hi ⟨_,k⟩ e=>k.fwd g hw hi r e) (fun w q j hw hi ⟨_,k⟩ hq h0 h1 e=>k.in1 g hw hi hq ⟨h0,h1⟩ e) (fun w n ⟨tq,k⟩=>⟨tq,k.c,k.sp,k.old,k.pl,k.wl,k.pg,k.tk,k.tk0,k.q,k.hd,k.dt,k.lg⟩) hw g.p ⟨_,KI.begin g⟩ e e2
end
theorem Zii{w:Work}(hw:WkOk w)(h:Inv w){r n:Int}(hr:r∈w.old)(hq:r∉w.queue)(hn:n=hlA w.heap.words r+1)(hp:n≤w.heap.conf.pw)(hc:(w.place n).2.2=true):∀ x∈w.queue,∀ m,0≤m→m≤hlA w.heap.words x→loadA ((w.place n).1.copy r (w.place n).2.1 n).heap.words (x+m)=loadA w.heap.words (x+m):=by
 have hlr:=Z0i w.heap.words r
 obtain⟨i,p,t,h1,h2,h3,h4,h5,h6,h7,h8,e⟩:=Z55 hw ⟨by omega,hp⟩ hc
 have hb:=validB_iff.1 hw.conf
 have hpl:=hw.pl
 have hL:=h.L
 have hio:(i:Int)*w.heap.conf.pw+w.heap.conf.pw≤w.heap.conf.pw*w.heap.conf.pg:=by
  have:=Z0W (i:=i) (j:=w.heap.conf.pg) (pw:=w.heap.conf.pw) (by omega) (by omega)
  rw[Int.mul_comm w.heap.conf.pw];exact this
 have hi0:0≤(i:Int)*w.heap.conf.pw:=Int.mul_nonneg (by omega) (by omega)
 rw[e,h8]
 generalize hu:occP (w.heap.pages.getD i default)=u at *
 generalize ha:4096+(i:Int)*w.heap.conf.pw+u=at'
 have hrr:=h.r r (List.mem_append_left _ hr)
 have hf:=h.f i h1 (by rcases h2 with h2 | h2;exact Or.inl h2;exact Or.inr h2.1)
 rw[hu]at hf
 obtain⟨m1,m2,m3⟩:=Z7B (ws:=w.heap.words) (a:=at') (b:=r) (n:=n) (by omega) (by omega) (by omega)
 have hsr:4096≤r∧r<4096+(moveA w.heap.words at' r n).1.length:=by omega
 intro x hx m hm0 hm1
 have hfx:=hf x (List.mem_append_right _ hx)
 simp only[Work.copy]
 rw[Z0F hsr ?_,m3 _ (by omega)]
 intro c
 by_cases q:x=r
 ·exact hq (q▸hx)
 ·have:=h.s x (List.mem_append_right _ hx) r (List.mem_append_left _ hr) (by omega)
  omega
theorem Z7k{w:Work}(hw:WkOk w)(h:Inv w)(r:Int)(e:(w.fwd r).2.2=0):(∃ m,(w.fwd r).1.queue=w.queue++m)∧(w.fwd r).1.scanned=w.scanned∧∀ x∈w.queue,∀ m,0≤m→m≤hlA w.heap.words x→loadA (w.fwd r).1.heap.words (x+m)=loadA w.heap.words (x+m):=by
 unfold Work.fwd at e ⊢
 split at e
 ·rename_i c1
  rw[if_pos c1]
  exact⟨⟨[],by simp⟩,rfl,fun _ _ _ _ _=>rfl⟩
 ·rename_i c1
  rw[if_neg c1]
  have c1':r∉w.queue:=fun h=>c1 (Or.inr h)
  split at e
  ·simp at e
  ·rename_i c2
   rw[if_neg c2]
   have c2':r∈w.old:=Decidable.not_not.1 c2
   split at e
   ·rename_i c3
    rw[if_pos c3]
    exact⟨⟨[],by simp⟩,rfl,fun _ _ _ _ _=>rfl⟩
   ·rename_i c3
    rw[if_neg c3]
    split at e
    ·simp at e
    ·rename_i c4
     rw[if_neg c4]
     split at e
     ·rename_i c5
      rw[if_pos c5]
      exact⟨⟨[r],rfl⟩,rfl,fun _ _ _ _ _=>rfl⟩
     ·rename_i c5
      rw[if_neg c5]
      split at e
      ·rename_i c6
       rw[if_pos c6]
       exact⟨⟨[r],rfl⟩,rfl,fun _ _ _ _ _=>rfl⟩
      ·rename_i c6
       rw[if_neg c6]
       split at e
       ·simp at e
       ·rename_i c7
        rw[if_neg c7]
        have c7':(w.place (sizeH (hdW w r))).2.2=true:=by simpa using c7
        have hz:=h.z r c2'
        have hp:sizeH (hdW w r)≤w.heap.conf.pw:=by
         rw[Z3v]
         rcases hz with hz | hz
         ·exact absurd hz c6
         ·exact hz
        have hlr:=Z0i w.heap.words r
        obtain⟨i,p,t,p1,p2,p3,p4,p5,p6,p7,e8⟩:=Z9F hw ⟨by rw[Z3v];omega,hp⟩ c7'
        refine⟨⟨[(w.place (sizeH (hdW w r))).2.1], ?_⟩, ?_,Zii hw h c2' c1' (Z3v w r) hp c7'⟩
        ·rw[e8];rfl
        ·rw[e8];rfl
def FD(w:Work)(F:Int→Prop):Prop:=∀ z,F z→(∃ q j,q∈w.queue∧0≤j∧j<hlA w.heap.words q∧z=q+1+j)∧ToOk w (loadA w.heap.words z).1
structure Sm (w v:Work):Prop where
 q:∃ m,v.queue=w.queue++m
 h:∀ x∈w.queue,hdA v.heap.words x=hdA w.heap.words x
theorem Sm.trans{u v w:Work}(a:Sm u v)(b:Sm v w):Sm u w:=by
 obtain⟨m,em⟩:=a.q
 obtain⟨n,en⟩:=b.q
 exact⟨⟨m++n,by rw[en,em,List.append_assoc]⟩,fun x hx=>(b.h x (by rw[em];exact List.mem_append_left _ hx)).trans (a.h x hx)⟩
theorem Sm.mem{w v:Work}(a:Sm w v){x:Int}(hx:x∈w.queue):x∈v.queue:=by
 obtain⟨m,em⟩:=a.q
 rw[em]
 exact List.mem_append_left _ hx
theorem Sm.len{w v:Work}(a:Sm w v){x:Int}(hx:x∈w.queue):hlA v.heap.words x=hlA w.heap.words x:=congrArg Header.length (a.h x hx)
theorem Sm.to{w v:Work}(a:Sm w v){x:Int}(hx:ToOk w x):ToOk v x:=hx.imp id a.mem
theorem Zl2{w:Work}(hw:WkOk w)(h:Inv w)(r:Int)(e:(w.fwd r).2.2=0):Sm w (w.fwd r).1:=by
 have s:=Z7k hw h r e
 refine⟨s.1,fun x hx=>?_⟩
 have:=s.2.2 x hx 0 (by omega) (Z0i _ _).1
 rw[Int.add_zero]at this
 rw[hdA,hdA,this]
theorem FD.fwd{w:Work}{F:Int→Prop}(f:FD w F)(hw:WkOk w)(h:Inv w)(r:Int)(e:(w.fwd r).2.2=0):FD (w.fwd r).1 F:=by
 have s:=Z7k hw h r e
 have m:=Zl2 hw h r e
 intro z hz
 obtain⟨⟨q,j,hq,h0,h1,rfl⟩,t⟩:=f z hz
 refine⟨⟨q,j,m.mem hq,h0,by rw[m.len hq];exact h1,rfl⟩, ?_⟩
 have:=s.2.2 q hq (1+j) (by omega) (by omega)
 rw[← Int.add_assoc]at this
 rw[this]
 exact m.to t
theorem ZmX{B:Int}{w:Work}(hw:WkOk w)(h:Inv w)(hp:PR B w){F:Int→Prop}(f:FD w F){q j:Int}(hq:q∈w.queue)(hj:0≤j∧j<hlA w.heap.words q)(e:(w.fwd (loadA w.heap.words (q+1+j)).1).2.2=0):Sm w (w.in1 (q+1+j))∧(w.in1 (q+1+j)).scanned=w.scanned∧FD (w.in1 (q+1+j)) (fun z=>F z∨z=q+1+j):=by
 have s:=Z7k hw h _ e
 have m:=Zl2 hw h _ e
 have ff:=f.fwd hw h _ e
 have to:=ZkR w _ hp e
 obtain⟨i1,x1⟩:=Z6E hw h _ e
 have hq1:=x1.q q hq
 have hl1:=x1.l q hq
 have hr:=i1.r q (List.mem_append_right _ hq1)
 have hin:4096≤q+1+j∧q+1+j<4096+(w.fwd (loadA w.heap.words (q+1+j)).1).1.heap.words.length:=by omega
 have hne:∀ x∈(w.fwd (loadA w.heap.words (q+1+j)).1).1.queue,x≠q+1+j:=by
  intro x hx c
  have:=i1.s q (List.mem_append_right _ hq1) x (List.mem_append_right _ hx) (by omega)
  omega
 have hh:∀ x∈(w.fwd (loadA w.heap.words (q+1+j)).1).1.queue,hdA (w.in1 (q+1+j)).heap.words x=hdA (w.fwd (loadA w.heap.words (q+1+j)).1).1.heap.words x:=by
  intro x hx
  simp only[Work.in1]
  rw[hdA,hdA,Z0F hin (hne x hx)]
 have m2:Sm (w.fwd (loadA w.heap.words (q+1+j)).1).1 (w.in1 (q+1+j)):=⟨⟨[],by simp[Work.in1]⟩,hh⟩
 refine⟨m.trans m2,s.2.1, ?_⟩
 intro z hz
 have key:(∃ q' j',q'∈w.queue∧0≤j'∧j'<hlA w.heap.words q'∧z=q'+1+j'):=by
  rcases hz with hz | rfl
  ·exact(f z hz).1
  ·exact⟨q,j,hq,hj.1,hj.2,rfl⟩
 obtain⟨q',j',k1,k2,k3,k4⟩:=key
 refine⟨⟨q',j',(m.trans m2).mem k1,k2,by rw[(m.trans m2).len k1];exact k3,k4⟩, ?_⟩
 by_cases c:z=q+1+j
 ·subst c
  have:(loadA (w.in1 (q+1+j)).heap.words (q+1+j)).1=(w.fwd (loadA w.heap.words (q+1+j)).1).2.1:=by
   simp only[Work.in1]
   rw[Z2B hin]
  rw[this]
  exact m2.to to
 ·have:loadA (w.in1 (q+1+j)).heap.words z=loadA (w.fwd (loadA w.heap.words (q+1+j)).1).1.heap.words z:=by
   simp only[Work.in1]
   rw[Z0F hin c]
  rw[this]
  rcases hz with hz | hz
  ·exact m2.to (ff z hz).2
  ·exact absurd hz c
section
variable {B:Int} (hB:0≤B)
include hB
theorem ZgJ{w:Work}(hw:WkOk w)(h:Inv w)(hp:PR B w){F:Int→Prop}(f:FD w F){q:Int}(hq:q∈w.queue){l:List Int}(hl:∀ x∈l,0≤x∧x<hlA w.heap.words q):∀ k,k≤l.length→(∀ j,j<k→innE w q l j=0)→Sm w (innN w q l k)∧(innN w q l k).scanned=w.scanned∧FD (innN w q l k) (fun z=>F z∨∃ i,i<k∧z=q+1+l.getD i default)
 | 0,_,_=>⟨⟨⟨[],by simp[innN]⟩,fun _ _=>rfl⟩,rfl,fun z hz=>f z (hz.resolve_right (by rintro⟨i,hi,_⟩;omega))⟩
 | k+1,hk,he=>by
  obtain⟨a,b,c⟩:=ZgJ hw h hp f hq hl k (by omega) (fun j hj=>he j (by omega))
  have ok:=(Z4d hw q l k (fun j hj=>he j (by omega))).1
  have iv:=Z7u hw h hq hl k (by omega) (fun j hj=>he j (by omega))
  have pr:=ZhP (PR B) (fun w q j hw hi h hq h0 h1 e=>PR.in1 hB w q j hw hi h hq h0 h1 e) hw h hp hq hl k (by omega) (fun j hj=>he j (by omega))
  have hx:=hl _ (getD_mem_iff.2 ⟨k,by omega,rfl⟩)
  obtain⟨d1,d2,d3⟩:=ZmX ok iv.1 pr c (a.mem hq) (j:=l.getD k default) ⟨hx.1,by rw[a.len hq];exact hx.2⟩ (he k (by omega))
  refine⟨a.trans d1,d2.trans b,fun z hz=>d3 z ?_⟩
  rcases hz with hz | ⟨i,hi,hz⟩
  ·exact Or.inl (Or.inl hz)
  ·by_cases q2:i=k
   ·subst q2;exact Or.inr hz
   ·exact Or.inl (Or.inr ⟨i,by omega,hz⟩)
def SD(w:Work):Prop:=FD w (fun z=>∃ i j,i<w.scanned.toNat∧j∈Z08 (hdA w.heap.words (w.queue.getD i default))∧z=w.queue.getD i default+1+j)
omit hB in
theorem Sm.get{w v:Work}(a:Sm w v){i:Nat}(hi:i<w.queue.length):v.queue.getD i default=w.queue.getD i default:=by
 obtain⟨m,em⟩:=a.q
 rw[em,List.getD_eq_getElem?_getD,List.getD_eq_getElem?_getD,List.getElem?_append_left hi]
theorem ZeN{w:Work}(hw:WkOk w)(h:Inv w)(hp:PR B w)(f:SD w)(e:(Z0K w).2.2=0):SD (Z0K w).1:=by
 by_cases hs:w.scanned<w.queue.length
 ·have hsc:=hw.sc
  have hq:Z37 w∈w.queue:=getD_mem_iff.2 ⟨w.scanned.toNat,by omega,rfl⟩
  unfold Z0K at e ⊢
  rw[if_pos hs]at e ⊢
  cases hb:(List.range (Z1O w).length).find? (fun k=>decide (innE w (Z37 w) (Z1O w) k≠0))with
  | none =>
   have h0:∀ j,j<(Z1O w).length→innE w (Z37 w) (Z1O w) j=0:=fun j hj=>by
    have:=List.find?_eq_none.1 hb j (List.mem_range.2 hj)
    simpa using this
   obtain⟨a,b,c⟩:=ZgJ hB hw h hp f hq (l:=Z1O w) (Z4J (hdW w (Z37 w))) (Z1O w).length (Nat.le_refl _) h0
   intro z hz
   obtain⟨i,j,hi,hj,rfl⟩:=hz
   simp only[Zd0]at hi hj ⊢
   rw[b]at hi
   have hg:=a.get (show i<w.queue.length by omega)
   have hm:w.queue.getD i default∈w.queue:=getD_mem_iff.2 ⟨i,by omega,rfl⟩
   rw[hg,a.h _ hm]at hj
   rw[hg]
   refine c _ ?_
   by_cases q:i=w.scanned.toNat
   ·subst q
    obtain⟨n,n1,n2⟩:=getD_mem_iff.1 hj
    exact Or.inr ⟨n,n1,by rw[← n2];rfl⟩
   ·exact Or.inl ⟨i,j,by omega,hj,rfl⟩
  | some k =>
   simp only[hb]at e
   have:=(List.find?_range_eq_some.1 hb).1
   simp[e]at this
 ·have e:Z0K w=(w,false,0):=by rw[Z0K,if_neg hs]
  rw[e]
  exact f
theorem Zl0{w:Work}(hw:WkOk w)(h:Inv w)(hp:PR B w)(f:SD w):∀ k,(∀ j,j<k→Z3i w j=false)→SD (itW w k)
 | 0,_=>f
 | k+1,hh=>by
  have ih:=Zl0 hw h hp f k (fun j hj=>hh j (by omega))
  have ok:=(Z3S hw k (fun j hj=>hh j (by omega))).1
  have iv:=(Z6Z hw h k (fun j hj=>hh j (by omega))).1
  have pr:=Zjp (PR B) (fun w q j hw hi h hq h0 h1 e=>PR.in1 hB w q j hw hi h hq h0 h1 e) (fun w n h=>⟨⟨h.tab.pt,h.tab.tk,h.tab.pin⟩,h.rt.q,h.rt.t⟩) hw h hp k (fun j hj=>hh j (by omega))
  have hk:=hh k (by omega)
  simp only[Z3i,decide_eq_false_iff_not,not_or,Decidable.not_not]at hk
  exact ZeN hB ok iv pr ih hk.1
theorem Zlv{w:Work}(hw:WkOk w)(h:Inv w)(hp:PR B w)(f:SD w)(e:(allF w).2=0):SD (allF w).1∧(allF w).1.scanned=(allF w).1.queue.length:=by
 obtain⟨k,hb⟩:=Z4G hw
 obtain⟨h1,h2,h3⟩:=List.find?_range_eq_some.1 hb
 have h0:∀ j,j<k→Z3i w j=false:=fun j hj=>by simpa using h3 j hj
 unfold allF at e ⊢
 rw[hb]at e ⊢
 simp only at e ⊢
 split at e
 ·rename_i c
  rw[if_pos c]
  have ok:=(Z3S hw k h0).1
  have iv:=(Z6Z hw h k h0).1
  have pr:=Zjp (PR B) (fun w q j hw hi h hq h0 h1 e=>PR.in1 hB w q j hw hi h hq h0 h1 e) (fun w n h=>⟨⟨h.tab.pt,h.tab.tk,h.tab.pin⟩,h.rt.q,h.rt.t⟩) hw h hp k h0
  refine⟨ZeN hB ok iv pr (Zl0 hB hw h hp f k h0) c, ?_⟩
  simp only[Z3i,decide_eq_true_eq]at h1
  have hf:(Z0K (itW w k)).2.1=false:=h1.resolve_left (fun q=>q c)
  have hsc:=ok.sc
  by_cases hs:(itW w k).scanned<(itW w k).queue.length
  ·exfalso
   unfold Z0K at hf c
   rw[if_pos hs]at hf c
   cases hb2:(List.range (Z1O (itW w k)).length).find? (fun m=>decide (innE (itW w k) (Z37 (itW w k)) (Z1O (itW w k)) m≠0))with
   | none =>
    rw[hb2]at hf
    simp at hf
   | some m =>
    simp only[hb2]at c
    have:=(List.find?_range_eq_some.1 hb2).1
    simp[c]at this
  ·have e3:Z0K (itW w k)=(itW w k,false,0):=by rw[Z0K,if_neg hs]
   rw[e3]
   simp only
   omega
 ·rename_i c
  exact absurd e c
theorem Zn9{h:Heap}{s:List Int}(hw:WOk h.words)(hp:Z02 h=true)(hb:∀ p∈h.pages,p.pins≤B)(e:(rootsF (beginW h) s).2.2=0)(e2:(allF (rootsF (beginW h) s).1).2=0):SD (cW2 h s)∧(cW2 h s).scanned=(cW2 h s).queue.length:=by
 have wb:=Z3h hw hp
 have hi:=Z38 hp
 have ho:=Z35 (roots:=s) wb hi e
 have pr:=ZaL (PR B) (fun w r hw hi h e=>PR.fwd hB w r hw hi h e) (roots:=s) wb hi ⟨Z4A hp hb,Z7y hp⟩ e
 have s0:=ZaL (fun w=>w.scanned=0) (fun w r hw hi h e=>(Z7k hw hi r e).2.1.trans h) (roots:=s) wb hi rfl e
 exact Zlv hB ho.1 ho.2.1 pr (fun z hz=>by obtain⟨i,j,q,_⟩:=hz;rw[s0]at q;simp at q) e2
end
def Z5t(w:Work)(x:Int):Prop:=Z1j w (ofA w.heap.conf x).1=true∧x∉w.queue
def Z8Y(n:Int)(a x:Int):Int:=if a=x then 1+16*n else 0
theorem ZgP{n:Int}(h:0≤n∧n≤255):decodeH (1+16*n)=(⟨0,n,0⟩,true):=by
 have hv:Z0h ⟨0,n,0⟩=true:=validH_iff.2 ⟨by simp,by simp,h.1,h.2,by simp⟩
 have:=decode_encode hv (by simp)
 rw[Z51 h]at this
 exact this
theorem Zhv{n:Int}(h:0≤n∧n≤255){ws:List Int}{a x:Int}(hx:4096≤x∧x+n<4096+ws.length)(ha:x≤a∧a≤x+n):(loadA (Z0u ws x (objW ⟨0,n,0⟩)).1 a).1=Z8Y n a x:=by
 have hl:(objW ⟨0,n,0⟩).length=n.toNat+1:=by simp[objW]
 rw[Z1W (by omega) (by omega)]
 unfold Z8Y
 by_cases c:a=x
 ·subst c
  simp[objW,Z51 h]
 ·rw[if_neg c,objW,show(a-x).toNat=(a-x-1).toNat+1 by omega]
  simp[List.getD_eq_getElem?_getD,List.getElem?_replicate]
  split<;>rfl
structure FL (v:Work) (ws:List Int) (k:Nat):Prop where
 l:ws.length=v.heap.words.length
 h:∀ x∈v.old,hlA ws x=hlA v.heap.words x
 s:∀ a,loadA ws a=loadA v.heap.words a∨∃ x∈v.old,Z5t v x∧x≤a∧a≤x+hlA v.heap.words x∧(loadA ws a).1=Z8Y (hlA v.heap.words x) a x
 f:∀ j,j<k→Z5t v (v.old.getD j default)→∀ a,v.old.getD j default≤a→a≤v.old.getD j default+hlA v.heap.words (v.old.getD j default)→(loadA ws a).1=Z8Y (hlA v.heap.words (v.old.getD j default)) a (v.old.getD j default)
theorem Ze9{v:Work}(hw:FOk v)(hi:Inv v):∀ k,k≤v.old.length→FL v (fillN v k).heap.words k
 | 0,_=>⟨rfl,fun _ _=>rfl,fun _=>Or.inl rfl,fun j hj=>by omega⟩
 | k+1,hk=>by
  have ih:=Ze9 hw hi k (by omega)
  obtain⟨i0,i1,i2,i3,i4,i5,i6,i7,i8,i9,i10,i11⟩:=Z5m v hw k
  have hm:v.old.getD k default∈v.old:=getD_mem_iff.2 ⟨k,by omega,rfl⟩
  have hr:=hi.r _ (List.mem_append_left _ hm)
  have hn:=Z0i v.heap.words (v.old.getD k default)
  have hprom:Z1j (fillN v k) (ofA (fillN v k).heap.conf (v.old.getD k default)).1=Z1j v (ofA v.heap.conf (v.old.getD k default)).1:=by
   unfold Z1j
   rw[i1,i2,i3,i6]
  by_cases c:Z5t v (v.old.getD k default)
  ·have e:(fillN v (k+1)).heap.words=(Z0u (fillN v k).heap.words (v.old.getD k default) (objW ⟨0,hlA v.heap.words (v.old.getD k default),0⟩)).1:=by
    show(Z5s (fillN v k) (v.old.getD k default)).heap.words=_
    rw[Z5s,hprom,i7,if_pos (show Z1j v (ofA v.heap.conf (v.old.getD k default)).1=true∧v.old.getD k default∉v.queue from c)]
    simp only
    rw[← ih.h _ hm]
    rfl
   rw[e]
   have hl:=ih.l
   generalize hx:v.old.getD k default=x at *
   have hin:4096≤x∧x+hlA v.heap.words x<4096+(fillN v k).heap.words.length:=by omega
   have ho:(objW ⟨0,hlA v.heap.words x,0⟩).length=(hlA v.heap.words x).toNat+1:=by simp[objW]
   have win:=fun a ha=>Zhv hn (ws:=(fillN v k).heap.words) (a:=a) hin ha
   have wout:∀ a,a<x∨x+hlA v.heap.words x<a→loadA (Z0u (fillN v k).heap.words x (objW ⟨0,hlA v.heap.words x,0⟩)).1 a=loadA (fillN v k).heap.words a:=fun a ha=>Z22 (by omega) (by omega)
   have sep:=fun y hy=>hi.s x (List.mem_append_left _ hm) y (List.mem_append_left _ hy)
   have sep2:=fun y hy=>hi.s y (List.mem_append_left _ hy) x (List.mem_append_left _ hm)
   refine⟨?_, ?_, ?_, ?_⟩
   ·unfold Z0u
    rw[if_pos (by omega)]
    exact(Z3M (by omega)).trans hl
   ·intro y hy
    by_cases q:y=x
    ·subst q
     have:=win y (by omega)
     rw[hlA,this,Z8Y,if_pos rfl,ZgP hn]
    ·have s1:=sep y hy
     have s2:=sep2 y hy
     have:=Z0i v.heap.words y
     rw[hlA,wout y (by omega)]
     exact ih.h y hy
   ·intro a
    by_cases q:x≤a∧a≤x+hlA v.heap.words x
    ·exact Or.inr ⟨x,hm,c,q.1,q.2,win a q⟩
    ·rw[wout a (by omega)]
     exact ih.s a
   ·intro j hj hf a h1 h2
    by_cases q:v.old.getD j default=x
    ·rw[q]at h1 h2 ⊢
     exact win a ⟨h1,h2⟩
    ·have hjk:j<k:=by
      by_cases q2:j=k
      ·subst q2;exact absurd hx q
      ·omega
     have hmj:v.old.getD j default∈v.old:=getD_mem_iff.2 ⟨j,by omega,rfl⟩
     have s1:=sep _ hmj
     have s2:=sep2 _ hmj
     have:=Z0i v.heap.words (v.old.getD j default)
     rw[wout a (by omega)]
     exact ih.f j hjk hf a h1 h2
  ·have e:fillN v (k+1)=fillN v k:=by
    show Z5s (fillN v k) (v.old.getD k default)=_
    rw[Z5s,hprom,i7,if_neg (show ¬ (Z1j v (ofA v.heap.conf (v.old.getD k default)).1=true∧v.old.getD k default∉v.queue)from c)]
   rw[e]
   refine⟨ih.l,ih.h,ih.s,fun j hj hf=>?_⟩
   by_cases q:j=k
   ·subst q;exact absurd hf c
   ·exact ih.f j (by omega) hf
theorem Zbp{c:Conf}{s:Int}{l:List Page}{ws:List Int}(hp:0≤c.pw)(hl:(ws.length:Int)=c.pw*l.length):∀ k,k≤l.length→(Z29 c.pw s l ws k).length=ws.length∧∀ (i:Nat) (o:Int),i<l.length→0≤o→o<c.pw→loadA (Z29 c.pw s l ws k) (4096+i*c.pw+o)=if i<k∧Z3a s (l.getD i default)then(0,0)else loadA ws (4096+i*c.pw+o)
 | 0,_=>⟨rfl,fun i o _ _ _=>by rw[if_neg (by omega)];rfl⟩
 | k+1,hk=>by
  obtain⟨h1,h2⟩:=Zbp (s:=s) hp hl k (by omega)
  unfold Z29
  by_cases c':Z3a s (l.getD k default)
  ·rw[if_pos c']
   have hk2:=Z0W (i:=k) (j:=l.length) (pw:=c.pw) (by omega) hp
   have hk0:0≤(k:Int)*c.pw:=Int.mul_nonneg (by omega) hp
   rw[Int.mul_comm (l.length:Int)]at hk2
   have hlen:(List.replicate c.pw.toNat (0:Int)).length=c.pw.toNat:=List.length_replicate
   have en:((k*c.pw.toNat:Nat):Int)=k*c.pw:=by rw[Int.natCast_mul,Int.toNat_of_nonneg hp]
   have e:spl (Z29 c.pw s l ws k) (k*c.pw.toNat) (List.replicate c.pw.toNat 0)=(Z0u (Z29 c.pw s l ws k) (4096+k*c.pw) (List.replicate c.pw.toNat 0)).1:=by
    unfold Z0u
    rw[if_pos (by omega)]
    simp only
    congr 1
    omega
   refine⟨?_, ?_⟩
   ·rw[Z3M (by omega)]
    exact h1
   ·intro i o hi h0 ho
    rw[e]
    by_cases q:i=k
    ·subst q
     rw[Z1W (by omega) (by omega),if_pos ⟨by omega,c'⟩]
     simp[List.getD_eq_getElem?_getD,List.getElem?_replicate]
     split<;>rfl
    ·have hne:4096+(i:Int)*c.pw+o<4096+k*c.pw∨4096+k*c.pw+c.pw≤4096+(i:Int)*c.pw+o:=by
      rcases Nat.lt_or_gt_of_ne q with q | q
      ·have:=Z0W (i:=i) (j:=k) (pw:=c.pw) (by omega) hp
       omega
      ·have:=Z0W (i:=k) (j:=i) (pw:=c.pw) (by omega) hp
       omega
     rw[Z22 (by omega) (by omega),h2 i o hi h0 ho]
     by_cases q2:i<k∧Z3a s (l.getD i default)
     ·rw[if_pos q2,if_pos ⟨by omega,q2.2⟩]
     ·rw[if_neg q2,if_neg (fun q3=>q2 ⟨by omega,q3.2⟩)]
  ·rw[if_neg c']
   refine⟨h1,fun i o hi h0 ho=>?_⟩
   rw[h2 i o hi h0 ho]
   by_cases q2:i<k∧Z3a s (l.getD i default)
   ·rw[if_pos q2,if_pos ⟨by omega,q2.2⟩]
   ·rw[if_neg q2,if_neg]
    rintro⟨q3,q4⟩
    by_cases q5:i=k
    ·subst q5;exact c' q4
    ·exact q2 ⟨by omega,q4⟩
theorem Z9x(hd:Header){k:Int}(h0:0≤k)(hp:Z0e hd k=true):∀ n:Nat,k<n→k∈Z0V hd n
 | 0,h=>by omega
 | n+1,h=>by
  unfold Z0V
  by_cases q:k=n
  ·subst q
   rw[if_pos hp]
   simp
  ·have ih:=Z9x hd h0 hp n (by omega)
   split
   ·exact List.mem_append_left _ ih
   ·exact ih
theorem Zau{hd:Header}{k:Int}(h0:0≤k)(h1:k<hd.length)(hp:Z0e hd k=true):k∈Z08 hd:=by
 have hv:Z0h hd=true:=by
  unfold Z0e at hp
  simp only[Bool.and_eq_true]at hp
  exact hp.1.1.1
 unfold Z08
 rw[if_pos hv]
 exact Z9x hd h0 hp _ (by omega)
structure CE (h:Heap) (T tq:Nat→List Int) (w:Work) (l4 l5:List Int):Prop where
 g:Gd h T
 k:KI h T tq w
 i:Inv w
 s:w.heap.space=0∨w.heap.space=1
 pt:PT w.heap.conf w.heap.pages
 ts:∀ x∈w.taken,(w.heap.pages.getD x.toNat default).space=1-w.heap.space
 sd:SD w
 sc:w.scanned=w.queue.length
 f3:∀ a,loadA l4 a=loadA w.heap.words a∨∃ x∈w.old,Z5t w x∧x≤a∧a≤x+hlA w.heap.words x∧(loadA l4 a).1=Z8Y (hlA w.heap.words x) a x
 f4:∀ x∈w.old,Z5t w x→∀ a,x≤a→a≤x+hlA w.heap.words x→(loadA l4 a).1=Z8Y (hlA w.heap.words x) a x
 n4:l4.length=w.heap.words.length
 n5:l5.length=w.heap.words.length
 fr:∀ (i:Nat) (o:Int),i<h.pages.length→0≤o→o<h.conf.pw→loadA l5 (bsP h i+o)=if Z3a w.heap.space (w.heap.pages.getD i default)then(0,0)else loadA l4 (bsP h i+o)
def tE(T tq:Nat→List Int)(w:Work)(i:Nat):List Int:=if(i:Int)∈w.taken then tq i else if(w.heap.pages.getD i default).space≠w.heap.space then T i else []
section
variable {h:Heap} {T tq:Nat→List Int} {w:Work} {l4 l5:List Int} (c:CE h T tq w l4 l5)
include c
theorem CE.mem{i:Nat}{x:Int}(hx:x∈tE T tq w i):(i:Int)∈w.taken∧x∈tq i∨(i:Int)∉w.taken∧(w.heap.pages.getD i default).space≠w.heap.space∧x∈T i:=by
 unfold tE at hx
 split at hx
 ·rename_i q;exact Or.inl ⟨q,hx⟩
 ·rename_i q
  split at hx
  ·rename_i q2;exact Or.inr ⟨q,q2,hx⟩
  ·simp at hx
theorem CE.gone0{i:Nat}(hi:(i:Int)∈w.taken):¬ Z3a w.heap.space (w.heap.pages.getD i default):=by
 have:=c.ts _ hi
 rw[Int.toNat_natCast]at this
 have:=c.s
 unfold Z3a
 omega
theorem CE.pgof{i:Nat}{x a:Int}(hx:x∈T i)(h1:x≤a)(h2:a≤x+hlA h.words x):∃ (j:Nat) (o:Int),j<h.pages.length∧0≤o∧o<h.conf.pw∧a=bsP h j+o∧(w.heap.pages.getD j default).kind≠0∧(w.heap.pages.getD j default).space=(w.heap.pages.getD i default).space:=by
 have g:=c.g
 have o:=g.on hx
 have po:=Z07 g.p
 have pg:=c.k.pg i (c.k.nt g hx)
 have hcc:=c.k.c
 have hpl:=c.k.pl
 rcases o.2.1 with k | k
 ·have pp:=Z0T g.p o.1
  exact⟨i,a-bsP h i,o.1,by omega,by omega,by omega,by omega,rfl⟩
 ·have hx2:=o.2.2.2.2.2.2 k
  have lg:=c.pt.lg i (by omega) (by omega)
  rw[pg.2.1,hcc]at lg
  have nu:=Z4K lg.1
  have h0:0≤(a-bsP h i)/h.conf.pw:=Int.ediv_nonneg (by omega) (by omega)
  have h3:=Int.mul_ediv_add_emod (a-bsP h i) h.conf.pw
  have h4:=Int.emod_nonneg (a-bsP h i) (b:=h.conf.pw) (by omega)
  have h5:=Int.emod_lt_of_pos (a-bsP h i) (b:=h.conf.pw) (by omega)
  have h6:(a-bsP h i)/h.conf.pw<need h.conf (h.pages.getD i default).used:=Int.ediv_lt_of_lt_mul (by omega) (by omega)
  rw[Int.mul_comm]at h3
  generalize hm:(a-bsP h i)/h.conf.pw=m at *
  have hmn:((m.toNat:Nat):Int)=m:=by omega
  refine⟨i+m.toNat,(a-bsP h i)%h.conf.pw, ?_,h4,h5, ?_, ?_⟩
  ·by_cases q:m.toNat=0
   ·omega
   ·have:=(lg.2 m.toNat (by omega) (by omega)).1
    omega
  ·unfold bsP at h3 ⊢
   rw[Int.natCast_add,hmn,Int.add_mul]
   omega
  ·by_cases q:m.toNat=0
   ·rw[q,Nat.add_zero]
    exact⟨by omega,rfl⟩
   ·have:=(lg.2 m.toNat (by omega) (by omega)).2
    exact⟨by omega,this.2⟩
theorem CE.keptw{i:Nat}{x a:Int}(hx:x∈T i)(hs:(w.heap.pages.getD i default).space≠w.heap.space)(h1:x≤a)(h2:a≤x+hlA h.words x):loadA l5 a=loadA l4 a:=by
 obtain⟨j,o,j1,o1,o2,e,k0,k1⟩:=c.pgof hx h1 h2
 rw[e,c.fr j o j1 o1 o2,if_neg]
 unfold Z3a
 rw[k1]
 exact fun q=>hs q.2
theorem CE.gonew{i:Nat}{x a:Int}(hx:x∈T i)(hs:(w.heap.pages.getD i default).space=w.heap.space)(h1:x≤a)(h2:a≤x+hlA h.words x):(loadA l5 a).1=0:=by
 obtain⟨j,o,j1,o1,o2,e,k0,k1⟩:=c.pgof hx h1 h2
 rw[e,c.fr j o j1 o1 o2,if_pos ⟨k0,k1.trans hs⟩]
theorem CE.seen4{x a:Int}(hx:x∈w.queue)(h1:x≤a)(h2:a≤x+hlA w.heap.words x):loadA l4 a=loadA w.heap.words a:=by
 rcases c.f3 a with q | ⟨y,hy,q1,q2,q3,q4⟩
 ·exact q
 ·exfalso
  have hne:x≠y:=fun e=>q1.2 (e▸hx)
  have s1:=c.i.s x (List.mem_append_right _ hx) y (List.mem_append_left _ hy)
  have s2:=c.i.s y (List.mem_append_left _ hy) x (List.mem_append_right _ hx)
  have r1:=Z0i w.heap.words x
  have r2:=Z0i w.heap.words y
  rcases Int.lt_or_gt_of_ne hne with q | q
  ·have:=s1 q;omega
  ·have:=s2 q;omega
theorem CE.takenw{i:Nat}{a:Int}(hi:(i:Int)∈w.taken)(h1:bsP h i≤a)(h2:a<bsP h i+h.conf.pw):loadA l5 a=loadA l4 a:=by
 have t:=c.k.tk i hi
 have:=c.fr i (a-bsP h i) t.1 (by omega) (by omega)
 rw[show bsP h i+(a-bsP h i)=a by omega,if_neg (c.gone0 hi)]at this
 exact this
theorem CE.seen{x a:Int}(hx:x∈w.queue)(h1:x≤a)(h2:a≤x+hlA w.heap.words x):loadA l5 a=loadA w.heap.words a:=by
 rw[← c.seen4 hx h1 h2]
 rcases c.k.q x hx with⟨i,i1,i2,i3,i4⟩ | ⟨i,i1,i2⟩
 ·have he:(loadA w.heap.words x).1=(loadA h.words x).1:=by
   rcases c.k.hd i x i2 with q | q
   ·exact q
   ·exact absurd q.2.2 i4
  rw[(Z27 he).2.1]at h2
  exact c.keptw i2 i4 h1 h2
 ·have t:=c.k.tk i i1
  have m:=Z1D t.2.2.2.2.2.1 i2
  exact c.takenw i1 (by omega) (by omega)
theorem CE.where'{x:Int}(hx:x∈w.queue):∃ i,x∈tE T tq w i:=by
 rcases c.k.q x hx with⟨i,i1,i2,i3,i4⟩ | ⟨i,i1,i2⟩
 ·exact⟨i,by rw[tE,if_neg i1,if_pos i4];exact i2⟩
 ·exact⟨i,by rw[tE,if_pos i1];exact i2⟩
theorem CE.seenK{x:Int}(hx:x∈w.queue):kdA w.heap.words x≠0∧okA w.heap.words x:=by
 rcases c.k.q x hx with⟨i,i1,i2,i3,i4⟩ | ⟨i,i1,i2⟩
 ·have he:(loadA w.heap.words x).1=(loadA h.words x).1:=by
   rcases c.k.hd i x i2 with q | q
   ·exact q
   ·exact absurd q.2.2 i4
  have o:=Z27 he
  exact⟨by rw[o.2.2.1];exact i3,o.1 (c.g.on i2).2.2.2.2.2.1⟩
 ·have t:=c.k.tk i i1
  exact⟨(t.2.2.2.2.2.2 x i2).2.1,(Z1D t.2.2.2.2.2.1 i2).1⟩
theorem CE.kept{i:Nat}{x:Int}(hx:x∈T i)(hn:(i:Int)∉w.taken)(hs:(w.heap.pages.getD i default).space≠w.heap.space):(loadA w.heap.words x).1=(loadA h.words x).1∧okA l5 x∧hlA l5 x=hlA h.words x∧(x∉w.queue→kdA l5 x=0∧(h.pages.getD i default).kind=1∧(kdA h.words x≠0→x∈w.old∧Z5t w x)):=by
 have he:(loadA w.heap.words x).1=(loadA h.words x).1:=by
  rcases c.k.hd i x hx with q | q
  ·exact q
  ·exact absurd q.2.2 hs
 have on:=c.g.on hx
 have oh:=Z27 he
 have rx:=Z0i h.words x
 refine⟨he, ?_⟩
 by_cases hq:x∈w.queue
 ·have e:=Z27 (congrArg Prod.fst (c.seen hq (Int.le_refl _) (by have:=Z0i w.heap.words x;omega)))
  exact⟨e.1 (oh.1 on.2.2.2.2.2.1),by rw[e.2.1,oh.2.1],fun q=>absurd hq q⟩
 ·have k1:(h.pages.getD i default).kind=1:=by
   rcases on.2.1 with q | q
   ·exact q
   ·have:=c.k.lg i q hs
    rw[← (on.2.2.2.2.2.2 q).1]at this
    exact absurd this hq
  have e5:loadA l5 x=loadA l4 x:=c.keptw hx hs (Int.le_refl _) (by omega)
  by_cases hk:kdA h.words x=0
  ·have e4:loadA l4 x=loadA w.heap.words x:=by
    rcases c.f3 x with q | ⟨y,hy,q1,q2,q3,q4⟩
    ·exact q
    ·exfalso
     obtain⟨j,hj,hjk⟩:=(c.k.old y).1 hy
     by_cases e:y=x
     ·subst e;exact hjk hk
     ·have sj:(loadA w.heap.words y).1=(loadA h.words y).1:=by
       rcases c.k.hd j y hj with q | q
       ·exact q
       ·exfalso
        have o2:=q1.1
        unfold Z1j at o2
        rw[c.k.c,c.g.ofx hj]at o2
        simp only[decide_eq_true_eq,Int.toNat_natCast]at o2
        exact o2.2.2.2.1 q.2.2
      rw[(Z27 sj).2.1]at q3
      have:=c.g.sep hj hx (by omega)
      omega
   have e:=Z27 (ws:=h.words) (ws':=l5) (a:=x) (by rw[e5,e4,he])
   exact⟨e.1 on.2.2.2.2.2.1,e.2.1,fun _=>⟨by rw[e.2.2.1];exact hk,k1,fun q=>absurd hk q⟩⟩
  ·have ho:x∈w.old:=(c.k.old x).2 ⟨i,hx,hk⟩
   have hf:Z5t w x:=by
    refine⟨?_,hq⟩
    have pg:=c.k.pg i hn
    have pl:=c.k.pl
    unfold Z1j
    rw[c.k.c,c.g.ofx hx]
    simp only[decide_eq_true_eq,Int.toNat_natCast]
    exact⟨by omega,by omega,by omega,hs,hn⟩
   have v:=c.f4 x ho hf x (Int.le_refl _) (by have:=Z0i w.heap.words x;omega)
   rw[Z8Y,if_pos rfl,oh.2.1]at v
   rw[← e5]at v
   have d:=ZgP rx
   exact⟨by rw[okA,v,d],by rw[hlA,v,d],fun _=>⟨by rw[kdA,hdA,v,d],k1,fun _=>⟨ho,hf⟩⟩⟩
theorem CE.start{i:Nat}{x:Int}(hx:x∈tE T tq w i):okA l5 x∧(kdA l5 x≠0↔x∈w.queue):=by
 have sq:x∈w.queue→okA l5 x∧kdA l5 x≠0:=fun hq=>by
  have e:=Z27 (congrArg Prod.fst (c.seen hq (Int.le_refl _) (by have:=Z0i w.heap.words x;omega)))
  have s:=c.seenK hq
  exact⟨e.1 s.2,by rw[e.2.2.1];exact s.1⟩
 rcases c.mem hx with⟨q1,q2⟩ | ⟨q1,q2,q3⟩
 ·have hq:=((c.k.tk i q1).2.2.2.2.2.2 x q2).1
  exact⟨(sq hq).1,fun _=>hq,fun _=>(sq hq).2⟩
 ·have kk:=c.kept q3 q1 q2
  refine⟨kk.2.1,fun hk=>?_,fun hq=>(sq hq).2⟩
  by_cases hq:x∈w.queue
  ·exact hq
  ·exact absurd (kk.2.2.2 hq).1 hk
theorem CE.good{b:Int}(hp:Z02 ⟨w.heap.conf,l5,w.heap.pages.map (Z1m w.heap.space),1-w.heap.space,b⟩=true):Gd ⟨w.heap.conf,l5,w.heap.pages.map (Z1m w.heap.space),1-w.heap.space,b⟩ (tE T tq w):=by
 have g:=c.g
 have hcc:=c.k.c
 have hpl:=c.k.pl
 have hs:=c.s
 have po:=Z07 g.p
 have hgt:∀ i,i<h.pages.length→(w.heap.pages.map (Z1m w.heap.space)).getD i default=Z1m w.heap.space (w.heap.pages.getD i default):=fun i hi=>by
  have:i<w.heap.pages.length:=by omega
  simp[List.getD_eq_getElem?_getD,this]
 have hng:∀ i,i<h.pages.length→((w.heap.pages.map (Z1m w.heap.space)).getD i default).kind≠0→¬ Z3a w.heap.space (w.heap.pages.getD i default)∧(w.heap.pages.map (Z1m w.heap.space)).getD i default=w.heap.pages.getD i default:=by
  intro i hi hk
  rw[hgt i hi]at hk ⊢
  unfold Z1m at hk ⊢
  split at hk
  ·simp at hk
  ·rename_i q
   rw[if_neg q]
   exact⟨q,rfl⟩
 have hb:∀ i,bsP ⟨w.heap.conf,l5,w.heap.pages.map (Z1m w.heap.space),1-w.heap.space,b⟩ i=bsP h i:=fun i=>by simp only[bsP,hcc]
 have hk5:∀ x,x∈w.queue→okA w.heap.words x→okA l5 x∧hlA l5 x=hlA w.heap.words x∧kdA l5 x=kdA w.heap.words x∧hdA l5 x=hdA w.heap.words x:=fun x hq ho=>by
  have e:=Z27 (congrArg Prod.fst (c.seen hq (Int.le_refl _) (by have:=Z0i w.heap.words x;omega)))
  exact⟨e.1 ho,e.2.1,e.2.2.1,e.2.2.2.1⟩
 have hkept:∀ i,i<h.pages.length→(i:Int)∉w.taken→((w.heap.pages.map (Z1m w.heap.space)).getD i default).kind≠0→(w.heap.pages.getD i default).space≠w.heap.space∧(h.pages.getD i default).kind=((w.heap.pages.map (Z1m w.heap.space)).getD i default).kind∧(h.pages.getD i default).used=((w.heap.pages.map (Z1m w.heap.space)).getD i default).used∧(h.pages.getD i default).pins=((w.heap.pages.map (Z1m w.heap.space)).getD i default).pins:=by
  intro i hi hn hk
  have n:=hng i hi hk
  have pg:=c.k.pg i hn
  rw[n.2]at hk ⊢
  refine⟨fun q=>n.1 ⟨hk,q⟩,pg.1.symm,pg.2.1.symm,pg.2.2.symm⟩
 refine⟨hp, ?_, ?_, ?_, ?_, ?_, ?_, ?_⟩
 ·intro i hi hk
  simp only[List.length_map]at hi hk ⊢
  have n:=hng i (by omega) hk
  rw[n.2]at hk ⊢
  have:=(c.pt.b i hi).s
  have n1:=n.1
  unfold Z3a at n1
  omega
 ·intro i hi hk
  simp only[List.length_map]at hi hk ⊢
  rw[hb]
  have n:=hng i (by omega) (by omega)
  by_cases q:(i:Int)∈w.taken
  ·have t:=c.k.tk i q
   rw[tE,if_pos q,n.2,hcc]
   refine⟨Z2j t.2.2.2.2.2.1 fun x hx=>?_,fun x hx=>?_⟩
   ·have e:=hk5 x (t.2.2.2.2.2.2 x hx).1 (Z1D t.2.2.2.2.2.1 hx).1
    exact⟨e.1,e.2.1⟩
   ·have e:=hk5 x (t.2.2.2.2.2.2 x hx).1 (Z1D t.2.2.2.2.2.1 hx).1
    rw[e.2.1]
    exact(t.2.2.2.2.2.2 x hx).2.2
  ·have kp:=hkept i (by omega) q (by omega)
   rw[tE,if_neg q,if_pos kp.1,← kp.2.2.1,hcc]
   have t:=g.t1 i (by omega) (by omega)
   refine⟨Z2j t.1 fun x hx=>?_,fun x hx=>?_⟩
   ·have e:=c.kept hx q kp.1
    exact⟨e.2.1,e.2.2.1⟩
   ·rw[(c.kept hx q kp.1).2.2.1]
    exact t.2 x hx
 ·intro i hi hk
  simp only[List.length_map]at hi hk ⊢
  rw[hb]
  have n:=hng i (by omega) (by omega)
  by_cases q:(i:Int)∈w.taken
  ·have t:=c.k.tk i q
   rw[n.2]at hk
   omega
  ·have kp:=hkept i (by omega) q (by omega)
   have t:=g.t2 i (by omega) (by omega)
   have hx:bsP h i∈T i:=by rw[t.1];simp
   have e:=c.kept hx q kp.1
   have hq:=c.k.lg i (by omega) kp.1
   have st:=c.start (i:=i) (x:=bsP h i) (by rw[tE,if_neg q,if_pos kp.1];exact hx)
   rw[tE,if_neg q,if_pos kp.1,← kp.2.2.1]
   exact⟨t.1,e.2.1,by rw[e.2.2.1];exact t.2.2.1,st.2.2 hq⟩
 ·intro i x hx
  simp only[List.length_map]
  rcases c.mem hx with⟨q1,q2⟩ | ⟨q1,q2,q3⟩
  ·have t:=c.k.tk i q1
   have:Z1m w.heap.space (w.heap.pages.getD i default)=w.heap.pages.getD i default:=by rw[Z1m,if_neg (c.gone0 q1)]
   rw[hgt i t.1,this]
   exact⟨by omega,Or.inl t.2.2.1⟩
  ·have t:=g.t0 i x q3
   have pg:=c.k.pg i q1
   have:Z1m w.heap.space (w.heap.pages.getD i default)=w.heap.pages.getD i default:=by rw[Z1m,if_neg (fun q=>q2 q.2)]
   rw[hgt i t.1,this]
   exact⟨by omega,by rw[pg.1];exact t.2⟩
 ·intro a ha
  simp only at ha ⊢
  have h4:(loadA l4 a).1≠0:=by
   have hr:4096≤a∧a<4096+l5.length:=by
    unfold loadA at ha
    by_cases q:4096≤a∧a<4096+l5.length
    ·exact q
    ·rw[if_neg q]at ha
     simp at ha
   have hl5:=c.n5
   have hL:=c.i.L
   rw[hcc]at hL
   have h0:0≤(a-4096)/h.conf.pw:=Int.ediv_nonneg (by omega) (by omega)
   have h3:=Int.mul_ediv_add_emod (a-4096) h.conf.pw
   have h5:=Int.emod_nonneg (a-4096) (b:=h.conf.pw) (by omega)
   have h6:=Int.emod_lt_of_pos (a-4096) (b:=h.conf.pw) (by omega)
   have h7:(a-4096)/h.conf.pw<h.conf.pg:=Int.ediv_lt_of_lt_mul (by omega) (by rw[Int.mul_comm];omega)
   rw[Int.mul_comm]at h3
   have f:=c.fr ((a-4096)/h.conf.pw).toNat ((a-4096)%h.conf.pw) (by omega) h5 h6
   have ea:bsP h ((a-4096)/h.conf.pw).toNat+(a-4096)%h.conf.pw=a:=by
    unfold bsP
    rw[Int.toNat_of_nonneg h0]
    omega
   rw[ea]at f
   rw[f]at ha
   split at ha
   ·simp at ha
   ·exact ha
  have hks:∀ i x,x∈T i→x≤a→a≤x+hlA h.words x→(i:Int)∉w.taken∧(w.heap.pages.getD i default).space≠w.heap.space:=fun i x hx h1 h2 =>
   ⟨c.k.nt g hx,fun q=>ha (c.gonew hx q h1 h2)⟩
  have cov:∀ i x,x∈T i→x≤a→a≤x+hlA h.words x→(x∉w.queue→a=x)→∃ i x,x∈tE T tq w i∧x≤a∧a<x+kpA l5 x:=by
   intro i x hx h1 h2 h3
   obtain⟨n1,n2⟩:=hks i x hx h1 h2
   have hm:x∈tE T tq w i:=by rw[tE,if_neg n1,if_pos n2];exact hx
   have kk:=c.kept hx n1 n2
   have r:=Z0i l5 x
   refine⟨i,x,hm,h1, ?_⟩
   by_cases q:x∈w.queue
   ·rw[kpA,if_neg ((c.start hm).2.2 q),kk.2.2.1]
    omega
   ·have:=h3 q
    unfold kpA
    split<;>omega
  rcases c.f3 a with q | ⟨x,hx,q1,q2,q3,q4⟩
  ·rw[q]at h4
   rcases c.k.dt a h4 with⟨i,x,hx,h1,h2⟩ | ⟨i,i1,i2,i3⟩
   ·have hkp:kpA h.words x≤hlA h.words x+1:=by
     have:=Z0i h.words x
     unfold kpA;split<;>omega
    have hh:=hks i x hx h1 (by omega)
    refine cov i x hx h1 (by omega) fun hq=>?_
    have kk:=(c.kept hx hh.1 hh.2).2.2.2 hq
    by_cases hk:kdA h.words x=0
    ·rw[kpA,if_pos hk]at h2
     omega
    ·have fl:=kk.2.2 hk
     have oh:=Z27 (c.kept hx hh.1 hh.2).1
     have v:=c.f4 x fl.1 fl.2 a h1 (by rw[oh.2.1];omega)
     rw[← q]at h4
     rw[v,Z8Y]at h4
     split at h4
     ·rename_i e;exact e
     ·exact absurd rfl h4
   ·have t:=c.k.tk i i1
    obtain⟨x,hx,x1,x2⟩:=Z9t t.2.2.2.2.2.1 i2 i3
    have hm:x∈tE T tq w i:=by rw[tE,if_pos i1];exact hx
    have hq:=(t.2.2.2.2.2.2 x hx).1
    have e:=hk5 x hq (Z1D t.2.2.2.2.2.1 hx).1
    refine⟨i,x,hm,x1, ?_⟩
    rw[kpA,if_neg ((c.start hm).2.2 hq),e.2.1]
    omega
  ·obtain⟨i,hi,hk⟩:=(c.k.old x).1 hx
   have sj:(loadA w.heap.words x).1=(loadA h.words x).1:=by
    rcases c.k.hd i x hi with q | q
    ·exact q
    ·exfalso
     have o2:=q1.1
     unfold Z1j at o2
     rw[hcc,g.ofx hi]at o2
     simp only[decide_eq_true_eq,Int.toNat_natCast]at o2
     exact o2.2.2.2.1 q.2.2
   rw[(Z27 sj).2.1]at q3
   refine cov i x hi q2 q3 fun _=>?_
   rw[q4,Z8Y]at h4
   split at h4
   ·rename_i e;exact e
   ·exact absurd rfl h4
 ·intro i x m hx hk h0 h1 hpt
  simp only at hk h1 hpt ⊢
  have hq:=(c.start hx).2.1 hk
  have sk:=c.seenK hq
  have e:=hk5 x hq sk.2
  rw[e.2.1]at h1
  rw[e.2.2.2]at hpt
  rw[c.seen hq (a:=x+1+m) (by omega) (by omega)]
  obtain⟨n,n1,n2⟩:=getD_mem_iff.1 hq
  have sd:=(c.sd (x+1+m) ⟨n,m,by rw[c.sc];simpa using n1,by rw[n2];exact Zau h0 h1 hpt,by rw[n2]⟩).2
  rcases sd with q | q
  ·exact Or.inl q
  ·obtain⟨j,hj⟩:=c.where' q
   exact Or.inr ⟨j,hj,(c.start hj).2.2 q⟩
 ·have:crowd (w.heap.pages.map (Z1m w.heap.space))≤crowd h.pages:=by
   refine Z5W (by simp;omega) fun i hi k1 k2=>?_
   by_cases q:(i:Int)∈w.taken
   ·have t:=c.k.tk i q
    have n:=hng i hi (by omega)
    rw[n.2]at k2
    omega
   ·have kp:=hkept i hi q (by omega)
    omega
  have g2:=g.cr
  simp only[hcc]
  omega
end
theorem Zgd{B:Int}(hB:0≤B){h:Heap}{T:Nat→List Int}(g:Gd h T){s k:List Int}(hw:WOk h.words)(hb:∀ p∈h.pages,p.pins≤B)(hs:RtOb h T s)(hk:RtOb h T k)(e:(Z0g h s k).2.2.2.2=0) :
  ∃ T',Gd (Z0g h s k).1 T'∧RtOb (Z0g h s k).1 T' (Z0g h s k).2.1∧RtOb (Z0g h s k).1 T' (Z0g h s k).2.2.1:=by
 have hp:=g.p
 have hr:=g.refers hs
 have hr':=g.refers hk
 have pr1:=(Z6K hB hw hb e).p1
 by_cases e1:(rootsF (beginW h) s).2.2=0
 ·by_cases e2:(allF (rootsF (beginW h) s).1).2=0
  ·have e7:Z0g h s k=(endH (cW5 h s k),(rootsF (beginW h) s).2.1,Z2U (cW2 h s) k k.length,(cW5 h s k).rep,0):=by rw[Z0g,if_pos hp,if_pos ⟨hr,hr'⟩,if_pos e1,if_pos e2]
   rw[e7]at pr1 ⊢
   have ck:=cOk h s k hw hp e1 e2
   have c5:=cOk5 h s k hw hp e1 e2
   have pr:=ZkP hB hw hp hb e1 e2
   have sd:=Zn9 hB hw hp hb e1 e2
   obtain⟨tq,ki⟩:=ZmS g hw e1 e2
   obtain⟨g1,g2,g3,g4,g5⟩:=ck.h4
   have po:=Z07 hp
   obtain⟨a1,a2,a3,a4,a5,a6,a7,a8⟩:=Z49 (cW2 h s) k k.length
   have a1:(cW3 h s k).heap=(cW2 h s).heap:=a1
   have a2:(cW3 h s k).old=(cW2 h s).old:=a2
   have a3:(cW3 h s k).taken=(cW2 h s).taken:=a3
   have a4:(cW3 h s k).queue=(cW2 h s).queue:=a4
   have fl:FL (cW3 h s k) (cW4 h s k).heap.words (cW3 h s k).old.length:=Ze9 ck.f3 ck.i3 (cW3 h s k).old.length (Nat.le_refl _)
   have tf:∀ x,Z5t (cW3 h s k) x↔Z5t (cW2 h s) x:=fun x=>by
    unfold Z5t Z1j
    rw[a1,a3,a4]
   have hcc:=ki.c
   have hpl:=ki.pl
   have hwl:=ki.wl
   have w4:(cW4 h s k).heap.words.length=h.words.length:=by
    have:=fl.l
    rw[a1]at this
    exact this.trans hwl
   have fw:=Zbp (c:=h.conf) (s:=(cW2 h s).heap.space) (l:=(cW2 h s).heap.pages) (ws:=(cW4 h s k).heap.words) (by omega) (by rw[w4,hpl,po.2.2.2.2.2.2.2.1];exact po.2.2.2.2.2.1) (cW2 h s).heap.pages.length (Nat.le_refl _)
   have e5:(Z11 (cW4 h s k)).heap.words=Z29 h.conf.pw (cW2 h s).heap.space (cW2 h s).heap.pages (cW4 h s k).heap.words (cW2 h s).heap.pages.length:=by
    simp only[Z11,g1,g2,g3]
   have ce:CE h T tq (cW2 h s) (cW4 h s k).heap.words (Z11 (cW4 h s k)).heap.words:=by
    refine⟨g,ki,ck.i2,ck.w2.sp,pr.tab.pt,pr.tab.tk,sd.1,sd.2, ?_, ?_, ?_, ?_, ?_⟩
    ·intro a
     rcases fl.s a with q | ⟨x,hx,q1,q2,q3,q4⟩
     ·refine Or.inl ?_
      rw[a1]at q
      exact q
     ·refine Or.inr ⟨x,a2▸hx,(tf x).1 q1,q2, ?_, ?_⟩
      ·rw[a1]at q3;exact q3
      ·rw[a1]at q4;exact q4
    ·intro x hx hf a h1 h2
     obtain⟨j,j1,j2⟩:=getD_mem_iff.1 hx
     have:=fl.f j (by rw[a2];exact j1)
     rw[a2,a1,j2]at this
     exact this ((tf x).2 hf) a h1 h2
    ·rw[w4,hwl]
    ·rw[e5,fw.1,w4,hwl]
    ·intro i o hi h0 ho
     have:=fw.2 i o (by omega) h0 ho
     rw[e5]
     show loadA _ (4096+(i:Int)*h.conf.pw+o)=_
     rw[this]
     by_cases q:Z3a (cW2 h s).heap.space ((cW2 h s).heap.pages.getD i default)
     ·rw[if_pos ⟨by omega,q⟩,if_pos q]
     ·rw[if_neg (fun c=>q c.2),if_neg q]
      rfl
   have eh:endH (cW5 h s k)=⟨(cW2 h s).heap.conf,(Z11 (cW4 h s k)).heap.words,(cW2 h s).heap.pages.map (Z1m (cW2 h s).heap.space),1-(cW2 h s).heap.space,(endH (cW5 h s k)).bump⟩:=by
    unfold endH cW5
    simp only[Z11,g1,g2,g3,hcc]
   rw[eh]at pr1 ⊢
   have gd:=ce.good pr1
   have seen:∀ x,ToOk (cW2 h s) x→x=0∨Ob ⟨(cW2 h s).heap.conf,(Z11 (cW4 h s k)).heap.words,(cW2 h s).heap.pages.map (Z1m (cW2 h s).heap.space),1-(cW2 h s).heap.space,(endH (cW5 h s k)).bump⟩ (tE T tq (cW2 h s)) x:=by
    intro x hx
    rcases hx with q | q
    ·exact Or.inl q
    ·obtain⟨i,hi⟩:=ce.where' q
     exact Or.inr ⟨i,hi,(ce.start hi).2.2 q⟩
   refine⟨tE T tq (cW2 h s),gd,fun x hx=>seen x ?_,fun x hx=>seen x ?_⟩
   ·have hbg:=Z3h hw hp
    have hib:=Z38 hp
    have pr0:PR B (beginW h):=⟨Z4A hp hb,Z7y hp⟩
    have hall:=Z35 (roots:=s) hbg hib e1
    have ax:=Zay hall.1 hall.2.1 e2
    have:ToOk (rootsF (beginW h) s).1 x:=by
     unfold rootsF at e1 hx ⊢
     cases hbb:(List.range s.length).find? (fun k=>decide (Z2e (beginW h) s k≠0))with
     | none =>
      rw[hbb]at hx
      have h0:∀ j,j<s.length→Z2e (beginW h) s j=0:=fun j hj=>by
       have:=List.find?_eq_none.1 hbb j (List.mem_range.2 hj)
       simpa using this
      exact Z8R hB hbg hib pr0 s.length h0 x hx
     | some k =>
      rw[hbb]at e1
      simp only at e1
      have:=(List.find?_range_eq_some.1 hbb).1
      simp[e1]at this
    rcases this with q | q
    ·exact Or.inl q
    ·exact Or.inr (ax.2.q x q)
   ·have:∀ i,i≤k.length→∀ x∈Z2U (cW2 h s) k i,ToOk (cW2 h s) x:=by
     intro i
     induction i with
     | zero=>intro _ x hx;simp[Z2U]at hx
     | succ i ih =>
      intro hi' x hx
      simp only[Z2U,List.mem_append,List.mem_singleton]at hx
      rcases hx with hx | rfl
      ·exact ih (by omega) x hx
      ·have hsi:=Z49 (cW2 h s) k i
       unfold Z6d
       split
       ·exact Or.inl rfl
       ·rename_i hne
        unfold Z1t
        rw[hsi.2.2.2.1,hsi.1]
        split
        ·rename_i hq;exact Or.inr hq
        ·cases ht:(Z0o (loadA (cW2 h s).heap.words (k.getD i default)).1).2 with
         | true =>
          refine Or.inr (pr.rt.t _ ?_ ht)
          rw[ki.old]
          rcases hk _ (getD_mem_iff.2 ⟨i,by omega,rfl⟩)with q | q
          ·exact absurd q hne
          ·exact q
         | false =>
          refine Or.inl ?_
          unfold Z0o at ht ⊢
          split at ht
          ·simp at ht
          ·rename_i hcc2;rw[if_neg hcc2]
    exact this k.length (Nat.le_refl _) x hx
  ·rw[Z0g,if_pos hp,if_pos ⟨hr,hr'⟩,if_pos e1,if_neg e2]at e
   exact absurd e e2
 ·rw[Z0g,if_pos hp,if_pos ⟨hr,hr'⟩,if_neg e1]at e
  exact absurd e e1
theorem WG.collect{w:WorldM}{n:Nat}(h:WG w)(hm:MOk w n):WG w.collect:=by
 unfold WorldM.collect
 split
 ·rename_i e
  obtain⟨T,g,g1,g2⟩:=h
  exact Zgd (B:=n) (by omega) g hm.words (fun p hp=>(hm.pin_mem p hp).2) g1 g2 e
 ·exact h
theorem WG.step{w:WorldM}{n:Nat}(h:WG w)(hp:POk w)(hm:MOk w n)(hn:n≤1000000)(t:Tape):WG (w.step t):=by
 unfold WorldM.step
 repeat' split
 ·exact h.put hm.words (Z50 _ _)
 ·exact h.link hm hn _
 ·exact h.pin hp hm hn _
 ·exact h.drop _
 ·exact h.collect hm
 ·exact h.dup _
theorem Zl1{w:WorldM}{n:Nat}(h:WG w)(hp:POk w)(hm:MOk w n)(t:Tape):∀ k,n+k≤1000000→WG (mkS w t k).1
 | 0,_=>h
 | k+1,hk=>(Zl1 h hp hm t k (by omega)).step (ZgH hp hm t k (by omega)) (Z9k hm t k (by omega)) (by omega) _
theorem ZiV(l:List Int):WG (Z09 l):=by
 have e:=Z6J l
 have hl:(((Z3r l).step 4).step 5).l.length≤300:=by rw[e.1];simp;omega
 have hk:=ZeK (Z3r l).empty (((Z3r l).step 4).step 5) (by omega)
 exact Zl1 (ZjZ (Z3r l)) (Zbn (Z3r l)) (Zat (Z3r l)) _ _ (by omega)
def Z1n(h:Heap)(z v:Int):Heap:=⟨h.conf,h.words.set (z-4096).toNat v,h.pages,h.space,h.bump⟩
theorem ZeA{ws:List Int}{z a v:Int}(hz:4096≤z∧z<4096+ws.length):loadA (ws.set (z-4096).toNat v) a=if a=z then(v,0)else loadA ws a:=by
 unfold loadA
 rw[List.length_set]
 by_cases c:a=z
 ·subst c
  rw[if_pos hz,if_pos rfl,List.getD_eq_getElem?_getD,List.getElem?_set,if_pos rfl,if_pos (by omega)]
  rfl
 ·rw[if_neg c]
  by_cases q:4096≤a∧a<4096+ws.length
  ·rw[if_pos q,if_pos q]
   simp only[List.getD_eq_getElem?_getD,List.getElem?_set]
   rw[if_neg (by omega)]
  ·rw[if_neg q,if_neg q]
section
variable {h:Heap} {T:Nat→List Int} (g:Gd h T) {i:Nat} {k v:Int} (hi:i<h.pages.length) (hk:(h.pages.getD i default).kind=0) (h0:0≤k∧k<h.conf.pw)
include g hi hk h0
theorem Z8n:4096≤bsP h i+k∧bsP h i+k<4096+h.words.length:=by
 have po:=Z07 g.p
 have m:=Z0W (i:=i) (j:=h.conf.pg) (pw:=h.conf.pw) (by omega) (by omega)
 rw[Int.mul_comm h.conf.pg]at m
 have:0≤(i:Int)*h.conf.pw:=Int.mul_nonneg (by omega) (by omega)
 unfold bsP
 omega
theorem Za8:Z02 (Z1n h (bsP h i+k) v)=true:=by
 have q:=g.p
 rw[Z1g]at q ⊢
 refine⟨q.1, ?_,q.2.2.1,q.2.2.2.1,q.2.2.2.2.1,q.2.2.2.2.2⟩
 simp only[Z1n,List.length_set]
 exact q.2.1
theorem Zal{a:Int}(ha:a≠bsP h i+k):atH (Z1n h (bsP h i+k) v) a=atH h a:=by
 have e:loadA (Z1n h (bsP h i+k) v).words a=loadA h.words a:=by
  show loadA (h.words.set (bsP h i+k-4096).toNat v) a=_
  rw[ZeA (Z8n g hi hk h0),if_neg ha]
 unfold atH
 rw[if_pos g.p,if_pos (Za8 g hi hk h0),e]
 rfl
theorem Zhl{j:Nat}(hj:j≠i)(o:Int):adr h j o≠bsP h i+k:=by
 have po:=Z07 g.p
 have z:=Z8n g hi hk h0
 unfold adr address
 rw[if_pos po.1]
 split
 ·rename_i q
  have q:=inB_iff.1 q
  unfold bsP
  simp only
  rcases Nat.lt_or_gt_of_ne hj with c | c
  ·have:=Z0W (i:=j) (j:=i) (pw:=h.conf.pw) (by omega) (by omega)
   omega
  ·have:=Z0W (i:=i) (j:=j) (pw:=h.conf.pw) (by omega) (by omega)
   omega
 ·simp only
  omega
theorem Z9q{j:Nat}(hj:j≠i):∀ (f:Nat) (o:Int),Z2A (Z1n h (bsP h i+k) v) j f o=Z2A h j f o
 | 0,_=>rfl
 | f+1,o=>by
  have ea:adr (Z1n h (bsP h i+k) v) j o=adr h j o:=rfl
  have ep:pg (Z1n h (bsP h i+k) v) j=pg h j:=rfl
  unfold Z2A
  rw[ea,ep,Zal g hi hk h0 (Zhl g hi hk h0 hj o),Z9q hj f]
theorem Z6R{j:Nat}(hj:j<h.pages.length):Z06 (Z1n h (bsP h i+k) v) j=(T j,0):=by
 rw[← g.page hj]
 by_cases q:j=i
 ·subst q
  unfold Z06
  rw[if_pos g.p,if_pos (Za8 g hj hk h0)]
  have ep:pg (Z1n h (bsP h j+k) v) j=pg h j:=rfl
  have el:(Z1n h (bsP h j+k) v).pages=h.pages:=rfl
  have hp:(pg h j).kind=0:=by simpa[pg]using hk
  rw[ep,el,if_pos (show(pg h j).kind=0∨(pg h j).kind=3 from Or.inl hp),if_pos (show(pg h j).kind=0∨(pg h j).kind=3 from Or.inl hp)]
 ·unfold Z06
  rw[if_pos g.p,if_pos (Za8 g hi hk h0)]
  have ep:pg (Z1n h (bsP h i+k) v) j=pg h j:=rfl
  have el:(Z1n h (bsP h i+k) v).pages=h.pages:=rfl
  rw[ep,el,Z9q g hi hk h0 q]
theorem Zf1{j:Nat}{x:Int}(hx:x∈T j):x≠bsP h i+k:=by
 have f:=g.free hi (Or.inl hk) hx
 have:=Z0i h.words x
 rw[occP,if_pos hk]at f
 omega
theorem Z9G{j:Nat}(hj:j<h.pages.length):Z1z (Z1n h (bsP h i+k) v) j=Z1z h j:=by
 have hh:Z0s h.pages j<h.pages.length:=by
  have:=Z7o h.pages j
  omega
 unfold Z1z
 have el:(Z1n h (bsP h i+k) v).pages=h.pages:=rfl
 rw[el,Z6R g hi hk h0 hh,g.page hh]
 unfold Z1B
 refine List.map_congr_left fun o _=>?_
 simp only
 have:∀ x∈T (Z0s h.pages j),Z4Y (Z1n h (bsP h i+k) v) j x o=Z4Y h j x o:=by
  intro x hx
  unfold Z4Y Z3J
  rw[Zal g hi hk h0 (Zf1 g hi hk h0 hx)]
  rfl
 rw[Bool.eq_iff_iff,List.any_eq_true,List.any_eq_true]
 constructor
 ·rintro⟨x,hx,q⟩;exact⟨x,hx,by rw[← this x hx];exact q⟩
 ·rintro⟨x,hx,q⟩;exact⟨x,hx,by rw[this x hx];exact q⟩
theorem Z6S{j m:Nat}(hj:j<h.pages.length)(hm:(m:Int)<h.conf.pw):Z3d (Z1n h (bsP h i+k) v) j m=if j=i∧(m:Int)=k then v else Z3d h j m:=by
 have po:=Z07 g.p
 have ea:(address h.conf j m).1=bsP h j+m:=by
  unfold address
  rw[if_pos po.1,if_pos (inB_iff.2 ⟨by omega,by omega,by omega,by omega⟩)]
  unfold bsP
  simp only
  rw[Int.add_assoc]
 have e1:Z3d (Z1n h (bsP h i+k) v) j m=(loadA (h.words.set (bsP h i+k-4096).toNat v) (address h.conf j m).1).1:=rfl
 have e2:Z3d h j m=(loadA h.words (address h.conf j m).1).1:=rfl
 rw[e1,e2,ea,ZeA (Z8n g hi hk h0)]
 by_cases c:j=i∧(m:Int)=k
 ·rw[if_pos c,if_pos (by rw[c.1,c.2])]
 ·rw[if_neg c,if_neg]
  intro q
  apply c
  unfold bsP at q
  rcases Nat.lt_trichotomy j i with d | d | d
  ·have:=Z0W (i:=j) (j:=i) (pw:=h.conf.pw) (by omega) (by omega)
   omega
  ·subst d
   exact⟨rfl,by omega⟩
  ·have:=Z0W (i:=i) (j:=j) (pw:=h.conf.pw) (by omega) (by omega)
   omega
theorem Zdm{j:Nat}(hj:j<h.pages.length)(hne:j≠i):(pageF (Z1n h (bsP h i+k) v) j).fault=0:=by
 have hs:=g.sp j hj
 have hc:Z0X (Z1n h (bsP h i+k) v) j (T j)=0:=by
  unfold Z0X
  have:(T j).find? (Z19 (Z1n h (bsP h i+k) v) j)=none:=by
   rw[List.find?_eq_none]
   intro x hx
   have e:Z19 (Z1n h (bsP h i+k) v) j x=Z19 h j x:=by
    unfold Z19
    rw[Zal g hi hk h0 (Zf1 g hi hk h0 hx)]
    rfl
   rw[e,g.cls hx]
   simp
  rw[this]
  rfl
 have hd:Z2k (Z1n h (bsP h i+k) v) j (Z1z (Z1n h (bsP h i+k) v) j)=0:=by
  rw[Z9G g hi hk h0 hj]
  have hl:=Z3U h j
  unfold Z2k
  have:(List.range (Z1z h j).length).find? (badD (Z1n h (bsP h i+k) v) j (Z1z h j))=none:=by
   rw[List.find?_eq_none]
   intro m hm
   have hm:=List.mem_range.1 hm
   have b:=g.badd hj (k:=m) (by omega)
   unfold badD at b ⊢
   rw[Z6S g hi hk h0 hj (by omega),if_neg (fun q=>hne q.1),b]
   simp
  rw[this]
 unfold pageF
 have el:(Z1n h (bsP h i+k) v).pages=h.pages:=rfl
 have es:(Z1n h (bsP h i+k) v).space=h.space:=rfl
 rw[el,es,if_neg (by rintro⟨q1,q2⟩;exact q2 (hs q1)),Z6R g hi hk h0 hj,if_neg (by simp),if_neg (by rw[hc];simp),if_neg (by rw[hd];simp)]
theorem Z9J(hv:v≠0):pageF (Z1n h (bsP h i+k) v) i=⟨4,i,bsP h i+k⟩:=by
 have hnil:T i=[]:=List.eq_nil_iff_forall_not_mem.2 fun x hx=>by have:=(g.t0 i x hx).2;omega
 have hh:Z0s h.pages i=i:=Ze1 (Nat.le_refl _) (by omega) fun m m1 m2=>by omega
 have hu:Z1z h i=List.replicate h.conf.pw.toNat false:=by
  unfold Z1z
  rw[hh,g.page hi,hnil]
  exact ZbI h i
 have hf:∀ m:Nat,(List.replicate h.conf.pw.toNat false).getD m default=false:=by
  intro m
  simp only[List.getD_eq_getElem?_getD,List.getElem?_replicate]
  split<;>rfl
 have hd:Z2k (Z1n h (bsP h i+k) v) i (Z1z (Z1n h (bsP h i+k) v) i)=bsP h i+k:=by
  rw[Z9G g hi hk h0 hi]
  unfold Z2k
  have:(List.range (Z1z h i).length).find? (badD (Z1n h (bsP h i+k) v) i (Z1z h i))=some k.toNat:=by
   rw[Z3U,List.find?_range_eq_some]
   refine⟨?_,List.mem_range.2 (by omega),fun m hm=>?_⟩
   ·unfold badD
    rw[hu,hf,Z6S g hi hk h0 hi (by omega),if_pos ⟨rfl,by omega⟩]
    simpa using hv
   ·have b:=g.badd hi (k:=m) (by omega)
    unfold badD at b ⊢
    rw[Z6S g hi hk h0 hi (by omega),if_neg (fun q=>by omega),b]
    rfl
  rw[this]
  simp only
  show 4096+(i:Int)*h.conf.pw+((k.toNat:Nat):Int)=_
  rw[Int.toNat_of_nonneg h0.1]
  rfl
 have z:=Z8n g hi hk h0
 unfold pageF
 have el:(Z1n h (bsP h i+k) v).pages=h.pages:=rfl
 rw[el,if_neg (by rintro⟨q1,q2⟩;exact q1 hk),Z6R g hi hk h0 hi,hnil,if_neg (by simp),if_neg (by simp[Z0X]),hd,if_pos (by omega)]
theorem ZcY(hv:v≠0):Z0t (Z1n h (bsP h i+k) v)=⟨4,i,bsP h i+k⟩:=by
 have hp:Z2p (Z1n h (bsP h i+k) v)=some i:=by
  unfold Z2p
  rw[List.find?_range_eq_some]
  refine⟨?_,List.mem_range.2 hi,fun j hj=>?_⟩
  ·rw[Z9J g hi hk h0 hv]
   rfl
  ·rw[Zdm g hi hk h0 (by omega) (by omega)]
   rfl
 unfold Z0t
 rw[if_pos (Za8 g hi hk h0),hp]
 exact Z9J g hi hk h0 hv
end
end Go.Proofs.YtjflpmnenhdeeaaGreat
