/-
 The statement AuditChecks: part 13.
 Conditions: none.
-/
import Derived.Test.YtolnblaadleknaaGreatU12
set_option maxRecDepth 100000
set_option maxHeartbeats 2000000
set_option linter.all false
namespace Go.Proofs.YtolnblaadleknaaGreat
open Go.Sx
def pinB(w:WorldM)(i:Nat)(n:Int):WorldM:=⟨⟨w.heap.conf,w.heap.words,w.heap.pages.set i ⟨(w.heap.pages.getD i default).kind,(w.heap.pages.getD i default).space,(w.heap.pages.getD i default).used,(w.heap.pages.getD i default).pins+n⟩,w.heap.space,w.heap.bump⟩,w.strong,w.weak⟩
def pinI(w:WorldM)(t:Tape):Nat:=(ofA w.heap.conf (w.pick t)).1.toNat
def WorldM.pin(w:WorldM)(t:Tape):WorldM :=
  if(ofA w.heap.conf (w.pick t)).2.2=0 then
    (if 0<(w.heap.pages.getD (pinI w t) default).pins∧(w.pickT t).next 2=0 then pinB w (pinI w t) (-1)
     else if 0<(w.heap.pages.getD (pinI w t) default).pins∨(w.heap.pages.getD (pinI w t) default).kind=2∨(crowd w.heap.pages:Int)<w.heap.conf.pg/4 then pinB w (pinI w t) 1 else w)else w
def WorldM.pinT(w:WorldM)(t:Tape):Tape:=if(ofA w.heap.conf (w.pick t)).2.2=0∧0<(w.heap.pages.getD (pinI w t) default).pins then(w.pickT t).step 2 else w.pickT t
theorem ZjY(w:WorldM)(t:Tape)(hw:WMok w)(ht:TOk t)(ha:t.at'≤1000000)(hv:Z05 w.heap.conf=true)(hp:(w.heap.pages.length:Int)=w.heap.conf.pg)(hpn:∀ j,j<w.heap.pages.length→-1048576≤(w.heap.pages.getD j default).pins∧(w.heap.pages.getD j default).pins≤4294967296):LentSpec Tryz.prog 160 [w.av,.pt 0 0 0] [t.b] (w.pin t).av [(w.pinT t).b]:=by
 have hb:=validB_iff.1 hv
 have s1:=Zah w t
 have k1:=Z0I ht s1.2.2 (by omega) (by omega)
 have p1:=Z3x hw t
 have q1:=hpn (pinI w t)
 have hcr:=Z2q w.heap.pages w.heap.pages.length
 unfold pinI at q1
 have o1:=fun e=>Z4v (a:=w.pick t) hv e
 by_cases e:(ofA w.heap.conf (w.pick t)).2.2=0
 ·have o2:=o1 e
  by_cases c1:0<(w.heap.pages.getD (ofA w.heap.conf (w.pick t)).1.toNat default).pins
  ·have eT:w.pinT t=(w.pickT t).step 2:=by rw[WorldM.pinT,if_pos ⟨e,c1⟩]
   by_cases c2:(w.pickT t).next 2=0
   ·have eP:w.pin t=⟨⟨w.heap.conf,w.heap.words,w.heap.pages.set (ofA w.heap.conf (w.pick t)).1.toNat ⟨(w.heap.pages.getD (ofA w.heap.conf (w.pick t)).1.toNat default).kind,(w.heap.pages.getD (ofA w.heap.conf (w.pick t)).1.toNat default).space,(w.heap.pages.getD (ofA w.heap.conf (w.pick t)).1.toNat default).used,(w.heap.pages.getD (ofA w.heap.conf (w.pick t)).1.toNat default).pins-1⟩,w.heap.space,w.heap.bump⟩,w.strong,w.weak⟩:=by rw[WorldM.pin,if_pos e,if_pos ⟨c1,c2⟩];rfl
    rw[eP,eT]
    exact lF Tryz.func160 [] (Fh 42 [.br true] (Fh 37 [.br true] (Fh 51 [.el (w.heap.pages.getD (ofA w.heap.conf (w.pick t)).fst.toNat default).dv] (Fp 12 (@Z1L w t ‹_› ‹_› (by omega)) (Fc 18 (@Z49 w.heap.conf (w.pick t) (by omega) (by omega)) (Ffb 23 ((ofA w.heap.conf (w.pick t)).snd.snd != 0) (Fs 25 (List.map Page.dv []) (Fa (by(simp[*];omega):(List.map Page.dv []).length+(List.map Page.dv w.heap.pages).length≤2^30) (Fs 29 (List.map Page.dv w.heap.pages) (Fm 41 Page.dv w.heap.pages ((ofA w.heap.conf (w.pick t)).fst) ((ofA w.heap.conf (w.pick t)).fst.toNat) (Fb (decide (0<(w.heap.pages.getD (ofA w.heap.conf (w.pick t)).fst.toNat default).pins)=true) (Fp 45 (@Z0f (w.pickT t) (2) ‹_› (by omega) (by omega)) (Fb (((w.pickT t).next (2:Int)==0)=true) (Fa (by exact Z1c (by omega):(List.map Page.dv w.heap.pages)[(ofA w.heap.conf (w.pick t)).fst.toNat]? = some (w.heap.pages.getD (ofA w.heap.conf (w.pick t)).fst.toNat default).dv) (Fi 52 ((w.heap.pages.getD (ofA w.heap.conf (w.pick t)).fst.toNat default).pins-1) (Fa (by exact Z1c (by omega):(List.map Page.dv w.heap.pages)[(ofA w.heap.conf (w.pick t)).fst.toNat]? = some (w.heap.pages.getD (ofA w.heap.conf (w.pick t)).fst.toNat default).dv) (FS 10054 Page.dv w.heap.pages ((ofA w.heap.conf (w.pick t)).fst.toNat) (Page.mk (w.heap.pages.getD (ofA w.heap.conf (w.pick t)).fst.toNat default).kind (w.heap.pages.getD (ofA w.heap.conf (w.pick t)).fst.toNat default).space (w.heap.pages.getD (ofA w.heap.conf (w.pick t)).fst.toNat default).used ((w.heap.pages.getD (ofA w.heap.conf (w.pick t)).fst.toNat default).pins-1)) ((w.heap.pages.getD (ofA w.heap.conf (w.pick t)).fst.toNat default).dv) Fz)))))))))))))))))
   ·have eP:w.pin t=⟨⟨w.heap.conf,w.heap.words,w.heap.pages.set (ofA w.heap.conf (w.pick t)).1.toNat ⟨(w.heap.pages.getD (ofA w.heap.conf (w.pick t)).1.toNat default).kind,(w.heap.pages.getD (ofA w.heap.conf (w.pick t)).1.toNat default).space,(w.heap.pages.getD (ofA w.heap.conf (w.pick t)).1.toNat default).used,(w.heap.pages.getD (ofA w.heap.conf (w.pick t)).1.toNat default).pins+1⟩,w.heap.space,w.heap.bump⟩,w.strong,w.weak⟩:=by rw[WorldM.pin,if_pos e,if_neg (fun q=>c2 q.2),if_pos (.inl c1)];rfl
    rw[eP,eT]
    exact lF Tryz.func160 [] (Fh 42 [.br true] (Fh 37 [.br false] (Fh 59 [.el (w.heap.pages.getD (ofA w.heap.conf (w.pick t)).fst.toNat default).dv] (Fh 65 [.el (w.heap.pages.getD (ofA w.heap.conf (w.pick t)).fst.toNat default).dv] (Fh 76 [.int (w.heap.conf.pg/4)] (Fh 55 [.br true] (Fh 82 [.el (w.heap.pages.getD (ofA w.heap.conf (w.pick t)).fst.toNat default).dv] (Fp 12 (@Z1L w t ‹_› ‹_› (by omega)) (Fc 18 (@Z49 w.heap.conf (w.pick t) (by omega) (by omega)) (Ffb 23 ((ofA w.heap.conf (w.pick t)).snd.snd != 0) (Fs 25 (List.map Page.dv []) (Fa (by(simp[*];omega):(List.map Page.dv []).length+(List.map Page.dv w.heap.pages).length≤2^30) (Fs 29 (List.map Page.dv w.heap.pages) (Fm 41 Page.dv w.heap.pages ((ofA w.heap.conf (w.pick t)).fst) ((ofA w.heap.conf (w.pick t)).fst.toNat) (Fb (decide (0<(w.heap.pages.getD (ofA w.heap.conf (w.pick t)).fst.toNat default).pins)=true) (Fp 45 (@Z0f (w.pickT t) (2) ‹_› (by omega) (by omega)) (Fb (((w.pickT t).next (2:Int)==0)=false) (Fa (by exact Z1c (by omega):(List.map Page.dv w.heap.pages)[(ofA w.heap.conf (w.pick t)).fst.toNat]? = some (w.heap.pages.getD (ofA w.heap.conf (w.pick t)).fst.toNat default).dv) (Fa (by intro hg;(try simp only[bs]at hg);exact Z1c (by omega):(!decide (0<(w.heap.pages.getD (ofA w.heap.conf (w.pick t)).fst.toNat default).pins))=true→(List.map Page.dv w.heap.pages)[(ofA w.heap.conf (w.pick t)).fst.toNat]? = some (w.heap.pages.getD (ofA w.heap.conf (w.pick t)).fst.toNat default).dv) (FcG 71 (!(decide (0<(w.heap.pages.getD (ofA w.heap.conf (w.pick t)).fst.toNat default).pins)||(w.heap.pages.getD (ofA w.heap.conf (w.pick t)).fst.toNat default).kind==2)) (fun hg=>by(try simp only[bs]at hg);exact @Z7C w.heap (by(try simp only[bs]at hg);omega)) (Fa (by intro hg;(try simp only[bs]at hg);rw[wrapI' (by omega) (by omega)];omega:(!(decide (0<(w.heap.pages.getD (ofA w.heap.conf (w.pick t)).fst.toNat default).pins)||(w.heap.pages.getD (ofA w.heap.conf (w.pick t)).fst.toNat default).kind==2))=true→IntKind.i64.wrap (w.heap.conf.pg.tdiv 4)=w.heap.conf.pg/4) (Fa (by intro hg;(try simp only[bs]at hg);omega:(!(decide (0<(w.heap.pages.getD (ofA w.heap.conf (w.pick t)).fst.toNat default).pins)||(w.heap.pages.getD (ofA w.heap.conf (w.pick t)).fst.toNat default).kind==2))=true→(4:Int)=0→False) (Fb ((decide (0<(w.heap.pages.getD (ofA w.heap.conf (w.pick t)).fst.toNat default).pins)||(w.heap.pages.getD (ofA w.heap.conf (w.pick t)).fst.toNat default).kind==2||decide ((↑(crowd w.heap.pages):Int)<w.heap.conf.pg/4))=true) (Fa (by exact Z1c (by omega):(List.map Page.dv w.heap.pages)[(ofA w.heap.conf (w.pick t)).fst.toNat]? = some (w.heap.pages.getD (ofA w.heap.conf (w.pick t)).fst.toNat default).dv) (Fi 83 ((w.heap.pages.getD (ofA w.heap.conf (w.pick t)).fst.toNat default).pins+1) (Fa (by exact Z1c (by omega):(List.map Page.dv w.heap.pages)[(ofA w.heap.conf (w.pick t)).fst.toNat]? = some (w.heap.pages.getD (ofA w.heap.conf (w.pick t)).fst.toNat default).dv) (FS 10085 Page.dv w.heap.pages ((ofA w.heap.conf (w.pick t)).fst.toNat) (Page.mk (w.heap.pages.getD (ofA w.heap.conf (w.pick t)).fst.toNat default).kind (w.heap.pages.getD (ofA w.heap.conf (w.pick t)).fst.toNat default).space (w.heap.pages.getD (ofA w.heap.conf (w.pick t)).fst.toNat default).used ((w.heap.pages.getD (ofA w.heap.conf (w.pick t)).fst.toNat default).pins+1)) ((w.heap.pages.getD (ofA w.heap.conf (w.pick t)).fst.toNat default).dv) Fz)))))))))))))))))))))))))))
  ·have eT:w.pinT t=w.pickT t:=by rw[WorldM.pinT,if_neg (fun q=>c1 q.2)]
   by_cases c3:(w.heap.pages.getD (ofA w.heap.conf (w.pick t)).1.toNat default).kind=2∨(crowd w.heap.pages:Int)<w.heap.conf.pg/4
   ·have eP:w.pin t=⟨⟨w.heap.conf,w.heap.words,w.heap.pages.set (ofA w.heap.conf (w.pick t)).1.toNat ⟨(w.heap.pages.getD (ofA w.heap.conf (w.pick t)).1.toNat default).kind,(w.heap.pages.getD (ofA w.heap.conf (w.pick t)).1.toNat default).space,(w.heap.pages.getD (ofA w.heap.conf (w.pick t)).1.toNat default).used,(w.heap.pages.getD (ofA w.heap.conf (w.pick t)).1.toNat default).pins+1⟩,w.heap.space,w.heap.bump⟩,w.strong,w.weak⟩:=by rw[WorldM.pin,if_pos e,if_neg (fun q=>c1 q.1),if_pos (.inr c3)];rfl
    rw[eP,eT]
    exact lF Tryz.func160 [] (Fh 42 [.br false] (Fh 45 [.lent (int ((w.pickT t).next 2)) [((w.pickT t).step 2).b]] (Fh 59 [.el (w.heap.pages.getD (ofA w.heap.conf (w.pick t)).fst.toNat default).dv] (Fh 65 [.el (w.heap.pages.getD (ofA w.heap.conf (w.pick t)).fst.toNat default).dv] (Fh 76 [.int (w.heap.conf.pg/4)] (Fh 55 [.br true] (Fh 82 [.el (w.heap.pages.getD (ofA w.heap.conf (w.pick t)).fst.toNat default).dv] (Fp 12 (@Z1L w t ‹_› ‹_› (by omega)) (Fc 18 (@Z49 w.heap.conf (w.pick t) (by omega) (by omega)) (Ffb 23 ((ofA w.heap.conf (w.pick t)).snd.snd != 0) (Fs 25 (List.map Page.dv []) (Fa (by(simp[*];omega):(List.map Page.dv []).length+(List.map Page.dv w.heap.pages).length≤2^30) (Fs 29 (List.map Page.dv w.heap.pages) (Fm 41 Page.dv w.heap.pages ((ofA w.heap.conf (w.pick t)).fst) ((ofA w.heap.conf (w.pick t)).fst.toNat) (Fb (decide (0<(w.heap.pages.getD (ofA w.heap.conf (w.pick t)).fst.toNat default).pins)=false) (Fa (by exact Z1c (by omega):(List.map Page.dv w.heap.pages)[(ofA w.heap.conf (w.pick t)).fst.toNat]? = some (w.heap.pages.getD (ofA w.heap.conf (w.pick t)).fst.toNat default).dv) (Fa (by intro hg;(try simp only[bs]at hg);exact Z1c (by omega):(!decide (0<(w.heap.pages.getD (ofA w.heap.conf (w.pick t)).fst.toNat default).pins))=true→(List.map Page.dv w.heap.pages)[(ofA w.heap.conf (w.pick t)).fst.toNat]? = some (w.heap.pages.getD (ofA w.heap.conf (w.pick t)).fst.toNat default).dv) (FcG 71 (!(decide (0<(w.heap.pages.getD (ofA w.heap.conf (w.pick t)).fst.toNat default).pins)||(w.heap.pages.getD (ofA w.heap.conf (w.pick t)).fst.toNat default).kind==2)) (fun hg=>by(try simp only[bs]at hg);exact @Z7C w.heap (by(try simp only[bs]at hg);omega)) (Fa (by intro hg;(try simp only[bs]at hg);rw[Int.tdiv_eq_ediv_of_nonneg (by omega),wrapI' (by omega) (by omega)]:(!(decide (0<(w.heap.pages.getD (ofA w.heap.conf (w.pick t)).fst.toNat default).pins)||(w.heap.pages.getD (ofA w.heap.conf (w.pick t)).fst.toNat default).kind==2))=true→IntKind.i64.wrap (w.heap.conf.pg.tdiv 4)=w.heap.conf.pg/4) (Fa (by intro hg;(try simp only[bs]at hg);omega:(!(decide (0<(w.heap.pages.getD (ofA w.heap.conf (w.pick t)).fst.toNat default).pins)||(w.heap.pages.getD (ofA w.heap.conf (w.pick t)).fst.toNat default).kind==2))=true→(4:Int)=0→False) (Fb ((decide (0<(w.heap.pages.getD (ofA w.heap.conf (w.pick t)).fst.toNat default).pins)||(w.heap.pages.getD (ofA w.heap.conf (w.pick t)).fst.toNat default).kind==2||decide ((↑(crowd w.heap.pages):Int)<w.heap.conf.pg/4))=true) (Fa (by exact Z1c (by omega):(List.map Page.dv w.heap.pages)[(ofA w.heap.conf (w.pick t)).fst.toNat]? = some (w.heap.pages.getD (ofA w.heap.conf (w.pick t)).fst.toNat default).dv) (Fi 83 ((w.heap.pages.getD (ofA w.heap.conf (w.pick t)).fst.toNat default).pins+1) (Fa (by exact Z1c (by omega):(List.map Page.dv w.heap.pages)[(ofA w.heap.conf (w.pick t)).fst.toNat]? = some (w.heap.pages.getD (ofA w.heap.conf (w.pick t)).fst.toNat default).dv) (FS 10085 Page.dv w.heap.pages ((ofA w.heap.conf (w.pick t)).fst.toNat) (Page.mk (w.heap.pages.getD (ofA w.heap.conf (w.pick t)).fst.toNat default).kind (w.heap.pages.getD (ofA w.heap.conf (w.pick t)).fst.toNat default).space (w.heap.pages.getD (ofA w.heap.conf (w.pick t)).fst.toNat default).used ((w.heap.pages.getD (ofA w.heap.conf (w.pick t)).fst.toNat default).pins+1)) ((w.heap.pages.getD (ofA w.heap.conf (w.pick t)).fst.toNat default).dv) Fz)))))))))))))))))))))))))
   ·have eP:w.pin t=w:=by rw[WorldM.pin,if_pos e,if_neg (fun q=>c1 q.1),if_neg (fun q=>q.elim c1 c3)]
    rw[eP,eT]
    exact lF Tryz.func160 [] (Fh 42 [.br false] (Fh 45 [.lent (int ((w.pickT t).next 2)) [((w.pickT t).step 2).b]] (Fh 59 [.el (w.heap.pages.getD (ofA w.heap.conf (w.pick t)).fst.toNat default).dv] (Fh 65 [.el (w.heap.pages.getD (ofA w.heap.conf (w.pick t)).fst.toNat default).dv] (Fh 76 [.int (w.heap.conf.pg/4)] (Fh 55 [.br false] (Fp 12 (@Z1L w t ‹_› ‹_› (by omega)) (Fc 18 (@Z49 w.heap.conf (w.pick t) (by omega) (by omega)) (Ffb 23 ((ofA w.heap.conf (w.pick t)).snd.snd != 0) (Fs 25 (List.map Page.dv []) (Fa (by(simp[*];omega):(List.map Page.dv []).length+(List.map Page.dv w.heap.pages).length≤2^30) (Fs 29 (List.map Page.dv w.heap.pages) (Fm 41 Page.dv w.heap.pages ((ofA w.heap.conf (w.pick t)).fst) ((ofA w.heap.conf (w.pick t)).fst.toNat) (Fb (decide (0<(w.heap.pages.getD (ofA w.heap.conf (w.pick t)).fst.toNat default).pins)=false) (Fa (by exact Z1c (by omega):(List.map Page.dv w.heap.pages)[(ofA w.heap.conf (w.pick t)).fst.toNat]? = some (w.heap.pages.getD (ofA w.heap.conf (w.pick t)).fst.toNat default).dv) (Fa (by intro hg;(try simp only[bs]at hg);exact Z1c (by omega):(!decide (0<(w.heap.pages.getD (ofA w.heap.conf (w.pick t)).fst.toNat default).pins))=true→(List.map Page.dv w.heap.pages)[(ofA w.heap.conf (w.pick t)).fst.toNat]? = some (w.heap.pages.getD (ofA w.heap.conf (w.pick t)).fst.toNat default).dv) (FcG 71 (!(decide (0<(w.heap.pages.getD (ofA w.heap.conf (w.pick t)).fst.toNat default).pins)||(w.heap.pages.getD (ofA w.heap.conf (w.pick t)).fst.toNat default).kind==2)) (fun hg=>by(try simp only[bs]at hg);exact @Z7C w.heap (by(try simp only[bs]at hg);omega)) (Fa (by intro hg;(try simp only[bs]at hg);rw[Int.tdiv_eq_ediv_of_nonneg (by omega),wrapI' (by omega) (by omega)]:(!(decide (0<(w.heap.pages.getD (ofA w.heap.conf (w.pick t)).fst.toNat default).pins)||(w.heap.pages.getD (ofA w.heap.conf (w.pick t)).fst.toNat default).kind==2))=true→IntKind.i64.wrap (w.heap.conf.pg.tdiv 4)=w.heap.conf.pg/4) (Fa (by intro hg;(try simp only[bs]at hg);omega:(!(decide (0<(w.heap.pages.getD (ofA w.heap.conf (w.pick t)).fst.toNat default).pins)||(w.heap.pages.getD (ofA w.heap.conf (w.pick t)).fst.toNat default).kind==2))=true→(4:Int)=0→False) (Fb ((decide (0<(w.heap.pages.getD (ofA w.heap.conf (w.pick t)).fst.toNat default).pins)||(w.heap.pages.getD (ofA w.heap.conf (w.pick t)).fst.toNat default).kind==2||decide ((↑(crowd w.heap.pages):Int)<w.heap.conf.pg/4))=false) Fz))))))))))))))))))))
 ·have eP:w.pin t=w:=by rw[WorldM.pin,if_neg e]
  have eT:w.pinT t=w.pickT t:=by rw[WorldM.pinT,if_neg (fun q=>e q.1)]
  rw[eP,eT]
  exact lF Tryz.func160 [] (Fp 12 (@Z1L w t ‹_› ‹_› (by omega)) (Fc 18 (@Z49 w.heap.conf (w.pick t) (by omega) (by omega)) (Ftb 23 ((ofA w.heap.conf (w.pick t)).snd.snd != 0) Fz)))
theorem Z6D(h:Heap)(s k:List Int)(hw:WOk h.words)(hs:s.length≤1048575)(hk:k.length≤1048575)(hs2:ULe s)(hk2:ULe k):GSpec Tryz.prog 69 [h.av,Z01 s,Z01 k] false (.tu [(Z0o h s k).1.av,Z01 (Z0o h s k).2.1,Z01 (Z0o h s k).2.2.1,.ag (Z0o h s k).2.2.2.1.cells,int (Z0o h s k).2.2.2.2]) []:=by
 unfold Z0o
 by_cases hp:Z02 h=true
 ·rw[if_pos hp]
  by_cases hr:Z0n h s=true∧Z0n h k=true
  ·rw[if_pos hr]
   by_cases e:(rootsF (beginW h) s).2.2=0
   ·rw[if_pos e]
    by_cases e2:(allF (rootsF (beginW h) s).1).2=0
    ·rw[if_pos e2]
     exact ZjM h s k hw hs hk hs2 hk2 hp hr.1 hr.2 e e2
    ·rw[if_neg e2]
     exact Zip h s k hw hs hk hs2 hk2 hp hr.1 hr.2 e e2
   ·rw[if_neg e]
    exact ZiE h s k hw hs hk hs2 hk2 hp hr.1 hr.2 e
  ·rw[if_neg hr]
   refine ZjI h s k hw hs hk hs2 hk2 hp ?_
   by_cases q:Z0n h s=true
   ·refine Or.inr ?_
    have:¬ Z0n h k=true:=fun q2=>hr ⟨q,q2⟩
    simpa using this
   ·exact Or.inl (by simpa using q)
 ·rw[if_neg hp]
  exact ZjL h s k hw hs hk hs2 hk2 (by simpa using hp)
def WorldM.collect(w:WorldM):WorldM:=if(Z0o w.heap w.strong w.weak).2.2.2.2=0 then⟨(Z0o w.heap w.strong w.weak).1,(Z0o w.heap w.strong w.weak).2.1,(Z0o w.heap w.strong w.weak).2.2.1⟩else w
theorem Zb6(w:WorldM)(hw:WOk w.heap.words)(hs:w.strong.length≤1048575)(hk:w.weak.length≤1048575)(hs2:ULe w.strong)(hk2:ULe w.weak):GSpec Tryz.prog 162 [w.av] false w.collect.av []:=by
 by_cases e:(Z0o w.heap w.strong w.weak).2.2.2.2=0
 ·have e7:w.collect=⟨(Z0o w.heap w.strong w.weak).1,(Z0o w.heap w.strong w.weak).2.1,(Z0o w.heap w.strong w.weak).2.2.1⟩:=by rw[WorldM.collect,if_pos e]
  rw[e7]
  exact gF [] Tryz.func162 [] (Fc 15 (@Z6D w.heap w.strong w.weak ‹_› ‹_› ‹_› ‹_› ‹_›) (Ftb 22 ((Z0o w.heap w.strong w.weak).snd.snd.snd.snd==0) Fz))
 ·have e7:w.collect=w:=by rw[WorldM.collect,if_neg e]
  rw[e7]
  exact gF [] Tryz.func162 [] (Fc 15 (@Z6D w.heap w.strong w.weak ‹_› ‹_› ‹_› ‹_› ‹_›) (Ffb 22 ((Z0o w.heap w.strong w.weak).snd.snd.snd.snd==0) Fz))
section
variable (P:Work→Prop) (hf:∀ w r,WkOk w→Inv w→P w→(w.fwd r).2.2=0→P (w.fwd r).1)
 (hin:∀ w q j,WkOk w→Inv w→P w→q∈w.queue→0≤j→j<hlA w.heap.words q→(w.fwd (loadA w.heap.words (q+1+j)).1).2.2=0→P (w.in1 (q+1+j))) (hsd:∀ w n,P w→P (ZeT w n))
include hin in
theorem Zkm{w:Work}(hw:WkOk w)(h:Inv w)(hp:P w){q:Int}(hq:q∈w.queue){l:List Int}(hl:∀ x∈l,0≤x∧x<hlA w.heap.words q):∀ k,k≤l.length→(∀ j,j<k→innE w q l j=0)→P (innN w q l k)
 | 0,_,_=>hp
 | k+1,hk,he=>by
  have ih:=Zkm hw h hp hq hl k (by omega) (fun j hj=>he j (by omega))
  have ok:=(Z4y hw q l k (fun j hj=>he j (by omega))).1
  have iv:=ZaF hw h hq hl k (by omega) (fun j hj=>he j (by omega))
  have hx:=hl _ (getD_mem_iff.2 ⟨k,by omega,rfl⟩)
  exact hin _ q (l.getD k default) ok iv.1 ih (iv.2.q q hq) hx.1 (by rw[iv.2.l q hq];exact hx.2) (he k (by omega))
include hin hsd in
theorem Zh9{w:Work}(hw:WkOk w)(h:Inv w)(hp:P w)(e:(Z0R w).2.2=0):P (Z0R w).1:=by
 by_cases hs:w.scanned<w.queue.length
 ·have hsc:=hw.sc
  have hq:Z3u w∈w.queue:=getD_mem_iff.2 ⟨w.scanned.toNat,by omega,rfl⟩
  unfold Z0R at e ⊢
  rw[if_pos hs]at e ⊢
  cases hb:(List.range (Z25 w).length).find? (fun k=>decide (innE w (Z3u w) (Z25 w) k≠0))with
  | none =>
   have h0:∀ j,j<(Z25 w).length→innE w (Z3u w) (Z25 w) j=0:=fun j hj=>by
    have:=List.find?_eq_none.1 hb j (List.mem_range.2 hj)
    simpa using this
   exact hsd _ _ (Zkm P hin hw h hp hq (l:=Z25 w) (Z6F (hdW w (Z3u w))) (Z25 w).length (Nat.le_refl _) h0)
  | some k =>
   simp only[hb]at e
   have:=(List.find?_range_eq_some.1 hb).1
   simp[e]at this
 ·have e:Z0R w=(w,false,0):=by rw[Z0R,if_neg hs]
  rw[e]
  exact hp
include hin hsd in
theorem Zmb{w:Work}(hw:WkOk w)(h:Inv w)(hp:P w):∀ k,(∀ j,j<k→Z3D w j=false)→P (itW w k)
 | 0,_=>hp
 | k+1,hh=>by
  have ih:=Zmb hw h hp k (fun j hj=>hh j (by omega))
  have ok:=(Z4I hw k (fun j hj=>hh j (by omega))).1
  have iv:=(Z9z hw h k (fun j hj=>hh j (by omega))).1
  have hk:=hh k (by omega)
  simp only[Z3D,decide_eq_false_iff_not,not_or,Decidable.not_not]at hk
  exact Zh9 P hin hsd ok iv ih hk.1
include hin hsd in
theorem ZmP{w:Work}(hw:WkOk w)(h:Inv w)(hp:P w)(e:(allF w).2=0):P (allF w).1:=by
 obtain⟨k,hb⟩:=Z5G hw
 obtain⟨h1,h2,h3⟩:=List.find?_range_eq_some.1 hb
 have h0:∀ j,j<k→Z3D w j=false:=fun j hj=>by simpa using h3 j hj
 unfold allF at e ⊢
 rw[hb]at e ⊢
 simp only at e ⊢
 split at e
 ·rename_i c
  rw[if_pos c]
  exact Zh9 P hin hsd (Z4I hw k h0).1 (Z9z hw h k h0).1 (Zmb P hin hsd hw h hp k h0) c
 ·rename_i c
  exact absurd e c
include hf in
theorem Zdm{w:Work}{roots:List Int}(hw:WkOk w)(h:Inv w)(hp:P w):∀ k,(∀ j,j<k→Z2w w roots j=0)→P (Z1t w roots k).1
 | 0,_=>hp
 | k+1,hh=>by
  have ih:=Zdm hw h hp k (fun j hj=>hh j (by omega))
  have ok:=(Z34 (roots:=roots) hw k (fun j hj=>hh j (by omega))).1
  have iv:=(Z6z (roots:=roots) hw h k (fun j hj=>hh j (by omega))).1
  exact hf _ _ ok iv ih (hh k (by omega))
include hf in
theorem Ziw{w:Work}{roots:List Int}(hw:WkOk w)(h:Inv w)(hp:P w)(e:(rootsF w roots).2.2=0):P (rootsF w roots).1:=by
 unfold rootsF at e ⊢
 cases hb:(List.range roots.length).find? (fun k=>decide (Z2w w roots k≠0))with
 | none =>
  have h0:∀ j,j<roots.length→Z2w w roots j=0:=fun j hj=>by
   have:=List.find?_eq_none.1 hb j (List.mem_range.2 hj)
   simpa using this
  exact Zdm P hf hw h hp roots.length h0
 | some k =>
  simp only[hb]at e
  have:=(List.find?_range_eq_some.1 hb).1
  simp[e]at this
include hf hin hsd in
theorem Zne{h:Heap}{s:List Int}(hw:WOk h.words)(hp:Z02 h=true)(h0:P (beginW h))(e:(rootsF (beginW h) s).2.2=0)(e2:(allF (rootsF (beginW h) s).1).2=0):P (cW2 h s):=by
 have hb:=Z4V hw hp
 have hi:=Z4C hp
 have ho:=Z4F (roots:=s) hb hi e
 exact ZmP P hin hsd ho.1 ho.2.1 (Ziw P hf hb hi h0 e) e2
end
theorem Zg6{l:List Page}{i k:Nat}(h:∀ m,m<k→i+1+m<l.length∧(l.getD (i+1+m) default).kind=3):k≤Z0D l i:=by
 by_cases hc:k≤Z0D l i
 ·exact hc
 ·have h1:=h (Z0D l i) (by omega)
  exact absurd h1.2 (Zdz h1.1)
theorem PT.flip{c:Conf}{l:List Page}(h:PT c l){i:Nat}(hi:i<l.length)(hk:(l.getD i default).kind=2){s:Int}(hs:0≤s∧s≤1):PT c (Z0L l i (Z0D l i) s):=by
 have hr:∀ j,i<j→j≤i+Z0D l i→(l.getD j default).kind=3:=fun j h1 h2=>by
  have:=(Zcj (l:=l) (i:=i) (m:=j-i-1) (by omega)).2
  rwa [show i+1+(j-i-1)=j by omega]at this
 have hg:∀ j,j<l.length→((Z0L l i (Z0D l i) s).getD j default).kind=(l.getD j default).kind∧((Z0L l i (Z0D l i) s).getD j default).used=(l.getD j default).used∧((Z0L l i (Z0D l i) s).getD j default).pins=(l.getD j default).pins:=fun j hj=>by
  rw[Z2r hj]
  split
  ·exact⟨rfl,rfl,rfl⟩
  ·exact⟨rfl,rfl,rfl⟩
 refine⟨?_, ?_, ?_⟩
 ·intro j hj
  rw[Z1U]at hj
  have b:=h.b j hj
  rw[Z2r hj]
  split
  ·rename_i hc
   refine⟨hs,b.n,b.k,fun q=>?_,b.k1,b.k3⟩
   exfalso
   have q':(l.getD j default).kind=0:=q
   by_cases hij:j=i
   ·subst hij;omega
   ·have:=hr j (by omega) hc.2;omega
  ·exact b
 ·intro j hj hk2
  rw[Z1U]at hj ⊢
  rw[(hg j hj).1]at hk2
  rw[(hg j hj).2.1]
  have q:=h.lg j hj hk2
  refine⟨q.1,fun m h1 h2=>?_⟩
  have r:=q.2 m h1 h2
  refine⟨r.1,by rw[(hg _ r.1).1];exact r.2.1, ?_⟩
  rw[Z2r r.1,Z2r hj]
  by_cases hij:j=i
  ·subst hij
   have hT:(need c (l.getD j default).used-1).toNat≤Z0D l j:=Zg6 fun m' hm'=>by
    have:=q.2 (m'+1) (by omega) (by omega)
    rw[show j+1+m'=j+(m'+1) by omega]
    exact⟨this.1,this.2.1⟩
   rw[if_pos (by omega),if_pos (by omega)]
   rfl
  ·have hj1:¬ (i≤j∧j≤i+Z0D l i):=fun hc=>by
    have:=hr j (by omega) hc.2;omega
   have hj2:¬ (i≤j+m∧j+m≤i+Z0D l i):=fun hc=>by
    by_cases hlt:j<i
    ·by_cases he:j+m=i
     ·have:=r.2.1;rw[he]at this;omega
     ·have:=(q.2 (i-j) (by omega) (by omega)).2.1
      rw[show j+(i-j)=i by omega]at this
      omega
    ·omega
   rw[if_neg hj1,if_neg hj2]
   exact r.2.2
 ·intro j hj hk3
  rw[Z1U]at hj
  rw[(hg j hj).1]at hk3
  obtain⟨a,a1,a2,a3⟩:=h.tl j hj hk3
  exact⟨a,a1,by rw[(hg a (by omega)).1];exact a2,by rw[(hg a (by omega)).2.1];exact a3⟩
structure Tab (B:Int) (w:Work):Prop where
 pt:PT w.heap.conf w.heap.pages
 tk:∀ x∈w.taken,(w.heap.pages.getD x.toNat default).space=1-w.heap.space
 pin:∀ p∈w.heap.pages,p.pins≤B
theorem Tab.withWords{B:Int}{w:Work}(h:Tab B w)(l:List Int):Tab B ⟨⟨w.heap.conf,l,w.heap.pages,w.heap.space,w.heap.bump⟩,w.old,w.taken,w.queue,w.scanned,w.rep⟩:=⟨h.pt,h.tk,h.pin⟩
theorem Tab.place{B:Int}(hB:0≤B){w:Work}(hw:WkOk w)(h:Tab B w){n:Int}(hn:1≤n∧n≤w.heap.conf.pw)(hc:(w.place n).2.2=true):PT (w.place n).1.heap.conf (w.place n).1.heap.pages∧(∀ x∈(w.place n).1.taken,((w.place n).1.heap.pages.getD x.toNat default).space=1-(w.place n).1.heap.space)∧∀ p∈(w.place n).1.heap.pages,p.pins≤B:=by
 have hsp:=hw.sp
 by_cases hf:Z6l w n
 ·have e:w.place n=(⟨⟨w.heap.conf,w.heap.words,Z2D w.heap.pages (Z1b w).toNat n,w.heap.space,w.heap.bump⟩,w.old,w.taken,w.queue,w.scanned,w.rep⟩,4096+Z1b w*w.heap.conf.pw+(w.heap.pages.getD (Z1b w).toNat default).used,true):=by rw[Work.place,if_pos hf]
  unfold Z6l at hf
  have hm:=hw.tk _ (Z20 hf.1)
  have hi:(Z1b w).toNat<w.heap.pages.length:=by omega
  have ok:=h.pt.b _ hi
  have u:=ok.k1 hm.2.2
  rw[e]
  refine⟨h.pt.setPage hi (Or.inr hm.2.2) ⟨ok.s,ok.n,ok.k,fun q=>by simp only at q;omega,fun _=>by simp only;omega,fun q=>by simp only at q;omega⟩ (Or.inr hm.2.2), ?_, ?_⟩
  ·intro x hx
   simp only
   rw[Z9T,Z1u hi]
   split
   ·rename_i q
    have:=h.tk _ (Z20 hf.1)
    simp only
    omega
   ·exact h.tk x hx
  ·intro p hp
   rcases List.mem_or_eq_of_mem_set hp with hp | rfl
   ·exact h.pin p hp
   ·exact h.pin (w.heap.pages.getD (Z1b w).toNat default) (getD_in hi)
 ·by_cases hg:0≤Z0S w
  ·have e:w.place n=(⟨⟨w.heap.conf,w.heap.words,Z2D (Z35 w) (Z0S w).toNat n,w.heap.space,w.heap.bump⟩,w.old,w.taken++[Z0S w],w.queue,w.scanned,w.rep⟩,4096+Z0S w*w.heap.conf.pw,true):=by rw[Work.place,if_neg hf,if_pos hg]
   obtain⟨g1,g2,g3⟩:=Z92 (h:=⟨w.heap.conf,w.heap.words,w.heap.pages,1-w.heap.space,w.heap.bump⟩) (by simp only;omega) hg n
   have g1':Z2D (Z35 w) (Z0S w).toNat n=w.heap.pages.set (Z0S w).toNat ⟨1,1-w.heap.space,n,0⟩:=g1
   have g2':(w.heap.pages.getD (Z0S w).toNat default).kind=0:=g2
   have g3':(Z0S w).toNat<w.heap.pages.length:=g3
   rw[e,g1']
   refine⟨h.pt.setPage g3' (Or.inl g2') ⟨by simp only;omega,by simp,by simp,by simp,fun _=>by simp only;omega,by simp⟩ (Or.inr rfl), ?_, ?_⟩
   ·intro x hx
    simp only at hx ⊢
    rw[Z1u g3']
    split
    ·rfl
    ·rename_i hne
     rcases List.mem_append.1 hx with hx | hx
     ·exact h.tk x hx
     ·simp at hx;subst hx;exact absurd rfl hne
   ·intro p hp
    rcases List.mem_or_eq_of_mem_set hp with hp | rfl
    ·exact h.pin p hp
    ·exact hB
  ·rw[Work.place,if_neg hf,if_neg hg]at hc
   simp at hc
theorem Tab.fwd{B:Int}(hB:0≤B)(w:Work)(r:Int)(hw:WkOk w)(hi:Inv w)(h:Tab B w)(e:(w.fwd r).2.2=0):Tab B (w.fwd r).1:=by
 unfold Work.fwd at e ⊢
 split at e
 ·rename_i c1
  rw[if_pos c1]
  exact h
 ·rename_i c1
  rw[if_neg c1]
  split at e
  ·simp at e
  ·rename_i c2
   rw[if_neg c2]
   have c2':r∈w.old:=Decidable.not_not.1 c2
   split at e
   ·rename_i c3
    rw[if_pos c3]
    exact h
   ·rename_i c3
    rw[if_neg c3]
    split at e
    ·simp at e
    ·rename_i c4
     rw[if_neg c4]
     split at e
     ·rename_i c5
      rw[if_pos c5]
      exact⟨h.pt,h.tk,h.pin⟩
     ·rename_i c5
      rw[if_neg c5]
      split at e
      ·rename_i c6
       rw[if_pos c6]
       have hsp:=hw.sp
       have o:=Z4v hw.conf (Decidable.not_not.1 c4)
       have hpl:=hw.pl
       have hl:Z1h w r<w.heap.pages.length:=by unfold Z1h;omega
       refine⟨h.pt.flip hl c6 (by omega), ?_, ?_⟩
       ·intro x hx
        have t:=hw.tk x hx
        simp only[Work.keep,Work.flip]
        rw[Z2r (by omega)]
        split
        ·rename_i hc
         exfalso
         by_cases hx':x.toNat=Z1h w r
         ·rw[hx']at t;omega
         ·have:=(Zcj (l:=w.heap.pages) (i:=Z1h w r) (m:=x.toNat-Z1h w r-1) (by omega)).2
          rw[show Z1h w r+1+(x.toNat-Z1h w r-1)=x.toNat by omega]at this
          omega
        ·exact h.tk x hx
       ·intro p hp
        simp only[Work.keep,Work.flip,Z0L,List.mem_map,List.mem_range]at hp
        obtain⟨j,hj,rfl⟩:=hp
        split
        ·exact h.pin (w.heap.pages.getD j default) (getD_in hj)
        ·exact h.pin (w.heap.pages.getD j default) (getD_in hj)
      ·rename_i c6
       rw[if_neg c6]
       split at e
       ·simp at e
       ·rename_i c7
        rw[if_neg c7]
        have c7':(w.place (sizeH (hdW w r))).2.2=true:=by simpa using c7
        have hz:=hi.z r c2'
        have hs:=Z5H w r
        have hp:sizeH (hdW w r)≤w.heap.conf.pw:=by
         rw[Zav]
         rcases hz with hz | hz
         ·exact absurd hz c6
         ·exact hz
        obtain⟨q1,q2,q3⟩:=h.place hB hw ⟨hs.1,hp⟩ c7'
        exact⟨q1,q2,q3⟩
theorem Zgw{B:Int}{h:Heap}(hp:Z02 h=true)(hb:∀ p∈h.pages,p.pins≤B):Tab B (beginW h):=by
 have hp':=hp
 rw[Z2b]at hp'
 have hs:=hp'.2.2.2.1
 refine⟨?_,by simp[beginW], ?_⟩
 ·refine hp'.2.2.2.2.2.mapPages _ ?_ ?_ ?_ ?_
  ·intro p hp
   unfold begQ
   split
   ·rename_i hc
    exact⟨by simp only;omega,hp.n,hp.k,fun q=>by simp only at q;omega,hp.k1,fun q=>by simp only at q;omega⟩
   ·exact hp
  ·intro p hp hk
   unfold begQ at hk ⊢
   split at hk
   ·rename_i hc;simp only at hk;omega
   ·rename_i hc;rw[if_neg hc];exact⟨hk,rfl⟩
  ·intro p hp hk
   unfold begQ at hk
   split at hk
   ·rename_i hc;simp only at hk;omega
   ·exact hk
  ·intro p q hp hq h2 h3 he
   have e1:begQ (1-h.space) p=p:=by rw[begQ,if_neg (by omega)]
   have e2:begQ (1-h.space) q=q:=by rw[begQ,if_neg (by omega)]
   rw[e1,e2]
   exact⟨⟨fun _=>h3,fun _=>h2⟩,fun _=>he⟩
 ·intro p hp
  simp only[beginW,List.mem_map]at hp
  obtain⟨q,hq,rfl⟩:=hp
  unfold begQ
  split
  ·exact hb q hq
  ·exact hb q hq
theorem ZkL{B:Int}(hB:0≤B){h:Heap}{s:List Int}(hw:WOk h.words)(hp:Z02 h=true)(hb:∀ p∈h.pages,p.pins≤B)(e:(rootsF (beginW h) s).2.2=0)(e2:(allF (rootsF (beginW h) s).1).2=0):Tab B (cW2 h s) :=
 Zne (Tab B) (fun w r hw hi h e=>h.fwd hB w r hw hi e) (fun w q j hw hi h hq h0 h1 e=>(Tab.fwd hB w _ hw hi h e).withWords _) (fun w n h=>⟨h.pt,h.tk,h.pin⟩) hw hp (Zgw hp hb) e e2
structure MOk (w:WorldM) (n:Nat):Prop where
 words:WOk w.heap.words
 hv:Z05 w.heap.conf=true
 pl:(w.heap.pages.length:Int)=w.heap.conf.pg
 L:(w.heap.words.length:Int)=w.heap.conf.pw*w.heap.conf.pg
 pins:∀ j,j<w.heap.pages.length→0≤(w.heap.pages.getD j default).pins∧(w.heap.pages.getD j default).pins≤n
 us:∀ j,j<w.heap.pages.length→0≤(w.heap.pages.getD j default).used∧(w.heap.pages.getD j default).used≤256
 strong:ULe w.strong
 weak:ULe w.weak
 sl:w.strong.length≤n
 wl:w.weak.length≤n
theorem MOk.wm{w:WorldM}{n:Nat}(h:MOk w n)(hn:n≤1000000):WMok w:=⟨h.words,h.strong,h.weak,Nat.le_trans h.sl (by omega),Nat.le_trans h.wl (by omega)⟩
def WorldM.dup(w:WorldM)(t:Tape):WorldM:=⟨w.heap,w.strong++[w.pick t],w.weak⟩
def WorldM.step(w:WorldM)(t:Tape):WorldM :=
 if t.next 12≤3 then w.put ((t.step 12).header w.heap.conf)
 else if t.next 12≤6 then w.link (t.step 12)
 else if t.next 12≤7 then w.pin (t.step 12)
 else if t.next 12≤9 then w.drop (t.step 12)
 else if t.next 12≤10 then w.collect
 else w.dup (t.step 12)
def WorldM.stepT(w:WorldM)(t:Tape):Tape :=
 if t.next 12≤3 then(t.step 12).headerT w.heap.conf
 else if t.next 12≤6 then w.linkT (t.step 12)
 else if t.next 12≤7 then w.pinT (t.step 12)
 else if t.next 12≤9 then w.dropT (t.step 12)
 else if t.next 12≤10 then t.step 12
 else w.pickT (t.step 12)
theorem Z8S(t:Tape)(c:Conf):0≤(t.header c).map∧(t.header c).map≤4294967295:=by
 have h:∀ n:Int,0≤((Z1A t c).step 4).next (2^(min (min n 32) 12).toNat)∧((Z1A t c).step 4).next (2^(min (min n 32) 12).toNat)≤4294967295:=by
  intro n
  have p:=ZkR (n:=min (min n 32) 12) (by omega)
  have r:=Z0d ((Z1A t c).step 4) (n:=2^(min (min n 32) 12).toNat) p.1
  omega
 unfold Tape.header
 split
 ·simp
 ·split
  ·simp
  ·exact h _
theorem Z0O(t:Tape)(d:Int)(hd:t.next 12=d)(ht:TOk t):LentSpec Tryz.prog 107 [.pt 0 0 0,int 12] [t.b] (int d) [(t.step 12).b]:=by
 rw[← hd]
 exact Z0f t 12 ht (by decide) (by decide)
section
variable (w:WorldM) (t:Tape) (n:Nat) (hm:MOk w n) (hn:n≤1000000) (ht:TOk t) (ha:t.at'≤900000)
include hm hn ht ha
theorem Zgk:LentSpec Tryz.prog 77 [w.av,.pt 0 0 0] [t.b] (w.step t).av [(w.stepT t).b]:=by
 have hw:=hm.wm hn
 have h1:=hm.words
 have h2:=hm.strong
 have h3:=hm.weak
 have h4:=hm.sl
 have h5:=hm.wl
 have s1:=Z0u (t:=t) 12
 have k1:=Z0I ht s1.2.2 (by omega) (by omega)
 have n1:=Z0d t (n:=12) (by decide)
 have hmap:=Z8S (t.step 12) w.heap.conf
 have hv:=hm.hv
 have hpl:=hm.pl
 have hpn:∀ j,j<w.heap.pages.length→-1048576≤(w.heap.pages.getD j default).pins∧(w.heap.pages.getD j default).pins≤4294967296:=fun j hj=>by
  have:=hm.pins j hj;omega
 have hd:t.next 12=0∨t.next 12=1∨t.next 12=2∨t.next 12=3∨t.next 12=4∨t.next 12=5∨t.next 12=6∨t.next 12=7∨t.next 12=8∨t.next 12=9∨t.next 12=10∨t.next 12=11:=by omega
 rcases hd with hd | hd | hd | hd | hd | hd | hd | hd | hd | hd | hd | hd
 ·have e7:w.step t=w.put ((t.step 12).header w.heap.conf):=by simp[WorldM.step,hd]
  have e8:w.stepT t=(t.step 12).headerT w.heap.conf:=by simp[WorldM.stepT,hd]
  rw[e7,e8]
  exact lF Tryz.func77 [] (Fp 6 (@Z0O t (0) ‹_› ‹_›) (Fp 17 (@Z4X (t.step 12) w.heap.conf ‹_› (by omega) ‹_›) (Fc 18 (@Z6T w ((t.step 12).header w.heap.conf) ‹_› ‹_›) Fz)))
 ·have e7:w.step t=w.put ((t.step 12).header w.heap.conf):=by simp[WorldM.step,hd]
  have e8:w.stepT t=(t.step 12).headerT w.heap.conf:=by simp[WorldM.stepT,hd]
  rw[e7,e8]
  exact lF Tryz.func77 [] (Fp 6 (@Z0O t (1) ‹_› ‹_›) (Fp 17 (@Z4X (t.step 12) w.heap.conf ‹_› (by omega) ‹_›) (Fc 18 (@Z6T w ((t.step 12).header w.heap.conf) ‹_› ‹_›) Fz)))
 ·have e7:w.step t=w.put ((t.step 12).header w.heap.conf):=by simp[WorldM.step,hd]
  have e8:w.stepT t=(t.step 12).headerT w.heap.conf:=by simp[WorldM.stepT,hd]
  rw[e7,e8]
  exact lF Tryz.func77 [] (Fp 6 (@Z0O t (2) ‹_› ‹_›) (Fp 17 (@Z4X (t.step 12) w.heap.conf ‹_› (by omega) ‹_›) (Fc 18 (@Z6T w ((t.step 12).header w.heap.conf) ‹_› ‹_›) Fz)))
 ·have e7:w.step t=w.put ((t.step 12).header w.heap.conf):=by simp[WorldM.step,hd]
  have e8:w.stepT t=(t.step 12).headerT w.heap.conf:=by simp[WorldM.stepT,hd]
  rw[e7,e8]
  exact lF Tryz.func77 [] (Fp 6 (@Z0O t (3) ‹_› ‹_›) (Fp 17 (@Z4X (t.step 12) w.heap.conf ‹_› (by omega) ‹_›) (Fc 18 (@Z6T w ((t.step 12).header w.heap.conf) ‹_› ‹_›) Fz)))
 ·have e7:w.step t=w.link (t.step 12):=by simp[WorldM.step,hd]
  have e8:w.stepT t=w.linkT (t.step 12):=by simp[WorldM.stepT,hd]
  rw[e7,e8]
  exact lF Tryz.func77 [] (Fp 6 (@Z0O t (4) ‹_› ‹_›) (Fp 25 (@Z86 w (t.step 12) ‹_› ‹_› (by omega)) Fz))
 ·have e7:w.step t=w.link (t.step 12):=by simp[WorldM.step,hd]
  have e8:w.stepT t=w.linkT (t.step 12):=by simp[WorldM.stepT,hd]
  rw[e7,e8]
  exact lF Tryz.func77 [] (Fp 6 (@Z0O t (5) ‹_› ‹_›) (Fp 25 (@Z86 w (t.step 12) ‹_› ‹_› (by omega)) Fz))
 ·have e7:w.step t=w.link (t.step 12):=by simp[WorldM.step,hd]
  have e8:w.stepT t=w.linkT (t.step 12):=by simp[WorldM.stepT,hd]
  rw[e7,e8]
  exact lF Tryz.func77 [] (Fp 6 (@Z0O t (6) ‹_› ‹_›) (Fp 25 (@Z86 w (t.step 12) ‹_› ‹_› (by omega)) Fz))
 ·have e7:w.step t=w.pin (t.step 12):=by simp[WorldM.step,hd]
  have e8:w.stepT t=w.pinT (t.step 12):=by simp[WorldM.stepT,hd]
  rw[e7,e8]
  exact lF Tryz.func77 [] (Fp 6 (@Z0O t (7) ‹_› ‹_›) (Fp 30 (@ZjY w (t.step 12) ‹_› ‹_› (by omega) ‹_› (by omega) ‹_›) Fz))
 ·have e7:w.step t=w.drop (t.step 12):=by simp[WorldM.step,hd]
  have e8:w.stepT t=w.dropT (t.step 12):=by simp[WorldM.stepT,hd]
  rw[e7,e8]
  exact lF Tryz.func77 [] (Fp 6 (@Z0O t (8) ‹_› ‹_›) (Fp 36 (@Zba w (t.step 12) ‹_› ‹_› (by omega)) Fz))
 ·have e7:w.step t=w.drop (t.step 12):=by simp[WorldM.step,hd]
  have e8:w.stepT t=w.dropT (t.step 12):=by simp[WorldM.stepT,hd]
  rw[e7,e8]
  exact lF Tryz.func77 [] (Fp 6 (@Z0O t (9) ‹_› ‹_›) (Fp 36 (@Zba w (t.step 12) ‹_› ‹_› (by omega)) Fz))
 ·have e7:w.step t=w.collect:=by simp[WorldM.step,hd]
  have e8:w.stepT t=t.step 12:=by simp[WorldM.stepT,hd]
  rw[e7,e8]
  exact lF Tryz.func77 [] (Fp 6 (@Z0O t (10) ‹_› ‹_›) (Fc 40 (@Zb6 w ‹_› (by omega) (by omega) ‹_› ‹_›) Fz))
 ·have e7:w.step t=w.dup (t.step 12):=by simp[WorldM.step,hd]
  have e8:w.stepT t=w.pickT (t.step 12):=by simp[WorldM.stepT,hd]
  rw[e7,e8]
  exact lF Tryz.func77 [] (Fh 49 [.els (List.map wdv (w.strong++[w.pick (t.step 12)]))] (Fp 6 (@Z0O t (11) ‹_› ‹_›) (Fs 41 (List.map wdv []) (Fa (by(simp[WorldM.dup, *];omega):(List.map wdv []).length+(List.map wdv w.strong).length≤2^30) (Fs 44 (List.map wdv w.strong) (Fp 47 (@Z1L w (t.step 12) ‹_› ‹_› (by omega)) (Fs 48 (List.map wdv [w.pick (t.step 12)]) (Fa (by(simp[WorldM.dup, *];omega):(List.map wdv w.strong).length+(List.map wdv [w.pick (t.step 12)]).length≤2^30) (Fa (by simp[WorldM.dup,List.map_take,List.map_drop,List.map_set,List.map_append,wdv,idv]:List.map wdv w.strong++List.map wdv [w.pick (t.step 12)]=List.map wdv (w.strong++[w.pick (t.step 12)])) Fz)))))))))
end
theorem Z96{pw s:Int}{l:List Page}{ws:List Int}(h:WOk ws):∀ i,WOk (Z2x pw s l ws i)
 | 0=>h
 | i+1=>by
  have ih:=Z96 (pw:=pw) (s:=s) (l:=l) h i
  unfold Z2x
  split
  ·intro x hx
   simp only[spl,List.mem_append,List.mem_replicate]at hx
   rcases hx with(hx | hx) | hx
   ·exact ih x (List.mem_of_mem_take hx)
   ·omega
   ·exact ih x (List.mem_of_mem_drop hx)
  ·exact ih
theorem ZkJ{c:Conf}{l:List Page}(h:PT c l)(s:Int):PT c (l.map (Z2l s)):=by
 refine h.mapPages _ ?_ ?_ ?_ ?_
 ·intro p hp
  unfold Z2l
  split
  ·exact⟨by simp,by simp,by simp,by simp,by simp,by simp⟩
  ·exact hp
 ·intro p hp hk
  unfold Z2l at hk ⊢
  split at hk
  ·simp at hk
  ·rename_i hc;rw[if_neg hc];exact⟨hk,rfl⟩
 ·intro p hp hk
  unfold Z2l at hk
  split at hk
  ·simp at hk
  ·exact hk
 ·intro p q hp hq h2 h3 he
  by_cases hg:p.space=s
  ·have e1:Z2l s p=⟨0,0,0,0⟩:=by rw[Z2l,if_pos ⟨by omega,hg⟩]
   have e2:Z2l s q=⟨0,0,0,0⟩:=by rw[Z2l,if_pos ⟨by omega,by omega⟩]
   rw[e1,e2]
   simp
  ·have e1:Z2l s p=p:=by rw[Z2l,if_neg (by unfold Z6m;omega)]
   have e2:Z2l s q=q:=by rw[Z2l,if_neg (by unfold Z6m;omega)]
   rw[e1,e2]
   exact⟨⟨fun _=>h3,fun _=>h2⟩,fun _=>he⟩
theorem Z7W{w:Work}(hw:WkOk w)(k:List Int):∀ i,∀ x∈Z3S w k i,0≤x∧x≤4294967296
 | 0,x,hx=>by simp[Z3S]at hx
 | i+1,x,hx=>by
  simp only[Z3S,List.mem_append,List.mem_singleton]at hx
  rcases hx with hx | rfl
  ·exact Z7W hw k i x hx
  ·have h:=Z6U w k i
   unfold Z7n
   split
   ·omega
   ·unfold Z1s
    rw[h.2.2.2.1,h.1]
    split
    ·rename_i hq
     have:=hw.q _ hq
     omega
    ·have:=Z61 (Z0N hw.words (k.getD i default)).1
     omega
structure ColOk (B:Int) (h:Heap) (s k:List Int):Prop where
 p0:Z02 h=true
 p1:Z02 (Z0o h s k).1=true
 w:WOk (Z0o h s k).1.words
 n:∀ p∈(Z0o h s k).1.pages,p.pins≤B
 c:(Z0o h s k).1.conf=h.conf
 r:∀ x∈(Z0o h s k).2.1,0≤x∧x≤4294967296
 rl:(Z0o h s k).2.1.length=s.length
 v:∀ x∈(Z0o h s k).2.2.1,0≤x∧x≤4294967296
 vl:(Z0o h s k).2.2.1.length=k.length
theorem ZfH{B:Int}(hB:0≤B){h:Heap}{s k:List Int}(hw:WOk h.words)(hb:∀ p∈h.pages,p.pins≤B)(e:(Z0o h s k).2.2.2.2=0):ColOk B h s k:=by
 by_cases hp:Z02 h=true
 ·by_cases hr:Z0n h s=true∧Z0n h k=true
  ·by_cases e1:(rootsF (beginW h) s).2.2=0
   ·by_cases e2:(allF (rootsF (beginW h) s).1).2=0
    ·have e7:Z0o h s k=(endH (cW5 h s k),(rootsF (beginW h) s).2.1,Z3S (cW2 h s) k k.length,(cW5 h s k).rep,0):=by rw[Z0o,if_pos hp,if_pos hr,if_pos e1,if_pos e2]
     have ho:=Z4F (roots:=s) (Z4V hw hp) (Z4C hp) e1
     have c:=cOk h s k hw hp e1 e2
     have c5:=cOk5 h s k hw hp e1 e2
     have tb:=ZkL hB hw hp hb e1 e2
     obtain⟨g1,g2,g3,g4,g5⟩:=c.h4
     have hsp:=c.w2.sp
     have hc2:(cW2 h s).heap.conf=h.conf:=c.x2.c
     have hpl:=c.w2.pl
     rw[hc2]at hpl
     have hL:=c.i4.L
     rw[g1]at hL
     have hfl:=Z4S (s:=(cW4 h s k).heap.space) c5.2.2.2.1 (cW4 h s k).heap.pages.length (Nat.le_refl _)
     refine⟨hp, ?_, ?_, ?_, ?_, ?_, ?_, ?_, ?_⟩
     ·rw[e7,Z2b]
      simp only[endH,cW5,Z16,g1,g2,g3,g4]
      have hptf:=ZkJ (s:=(cW2 h s).heap.space) tb.pt
      rw[hc2]at hptf
      refine⟨(Z0a hp).1, ?_,by simp only[List.length_map];exact hpl,by omega, ?_,hptf⟩
      ·rw[g1,g2,g3]at hfl
       rw[hfl]
       exact hL
      ·split
       ·rename_i ht
        have hm:=Z20 (w:=cW2 h s) ht
        have t1:=c.w2.tk _ hm
        have t2:=tb.tk _ hm
        refine Or.inr ⟨t1.1,by simp only[List.length_map];exact t1.2.1, ?_⟩
        have hx:(List.map (Z2l (cW2 h s).heap.space) (cW2 h s).heap.pages).getD (Z1b (cW2 h s)).toNat default=(cW2 h s).heap.pages.getD (Z1b (cW2 h s)).toNat default:=by
         have hi:(Z1b (cW2 h s)).toNat<(cW2 h s).heap.pages.length:=by omega
         have:(List.map (Z2l (cW2 h s).heap.space) (cW2 h s).heap.pages).getD (Z1b (cW2 h s)).toNat default=Z2l (cW2 h s).heap.space ((cW2 h s).heap.pages.getD (Z1b (cW2 h s)).toNat default):=by simp[List.getD_eq_getElem?_getD,hi]
         rw[this,Z2l,if_neg (by unfold Z6m;omega)]
        show((List.map (Z2l (cW2 h s).heap.space) (cW2 h s).heap.pages).getD (Z1b (cW2 h s)).toNat default).kind=1
        rw[hx]
        exact t1.2.2
       ·exact Or.inl rfl
     ·rw[e7]
      exact Z96 c.f4.words _
     ·rw[e7]
      intro p hp'
      simp only[endH,cW5,Z16,g2,List.mem_map]at hp'
      obtain⟨q,hq,rfl⟩:=hp'
      unfold Z2l
      split
      ·exact hB
      ·exact tb.pin q hq
     ·rw[e7]
      exact g1
     ·rw[e7]
      exact ho.2.2.2.1
     ·rw[e7]
      exact ho.2.2.2.2
     ·rw[e7]
      exact Z7W c.w2 k _
     ·rw[e7]
      exact Z8d _ _ _
    ·rw[Z0o,if_pos hp,if_pos hr,if_pos e1,if_neg e2]at e
     exact absurd e e2
   ·rw[Z0o,if_pos hp,if_pos hr,if_neg e1]at e
    exact absurd e e1
  ·rw[Z0o,if_pos hp,if_neg hr]at e
   simp at e
 ·rw[Z0o,if_neg hp]at e
  simp at e
theorem ZcB{h:Heap}(hp:Z02 h=true):∀ p∈h.pages,0≤p.pins:=by
 rw[Z2b]at hp
 intro p hp'
 obtain⟨i,hi,e⟩:=List.mem_iff_getElem.1 hp'
 have:=(hp.2.2.2.2.2.b i hi).n.1
 rwa [show h.pages.getD i default=p by rw[List.getD_eq_getElem?_getD,List.getElem?_eq_getElem hi,e];rfl]at this
theorem MOk.of_proper{w:WorldM}{n:Nat}(hp:Z02 w.heap=true)(hw:WOk w.heap.words)(hn:∀ p∈w.heap.pages,p.pins≤n)(h1:ULe w.strong)(h2:ULe w.weak)(h3:w.strong.length≤n)(h4:w.weak.length≤n):MOk w n:=by
 have po:=Z0a hp
 exact⟨hw,po.1,po.2.2.2.2.2.2.2.1,po.2.2.2.2.2.1,fun j hj=>⟨ZcB hp _ (getD_in hj),hn _ (getD_in hj)⟩,fun j hj=>by have:=Z1l hp hj;omega,h1,h2,h3,h4⟩
theorem MOk.pin_mem{w:WorldM}{n:Nat}(h:MOk w n):∀ p∈w.heap.pages,0≤p.pins∧p.pins≤n:=by
 intro p hp
 obtain⟨i,hi,e⟩:=List.mem_iff_getElem.1 hp
 have:=h.pins i hi
 rwa [show w.heap.pages.getD i default=p by rw[List.getD_eq_getElem?_getD,List.getElem?_eq_getElem hi,e];rfl]at this
theorem MOk.mono{w:WorldM}{n:Nat}(h:MOk w n):MOk w (n+1) :=
 ⟨h.words,h.hv,h.pl,h.L,fun j hj=>by have:=h.pins j hj;omega,h.us,h.strong,h.weak,by have:=h.sl;omega,by have:=h.wl;omega⟩
theorem Zcq{l:List Int}(h:ULe l){x:Int}(hx:0≤x∧x≤18446744073709551615):ULe (l++[x]):=by
 intro y hy
 simp only[List.mem_append,List.mem_singleton]at hy
 rcases hy with hy | rfl
 ·exact h y hy
 ·exact hx
theorem MOk.put{w:WorldM}{n:Nat}(h:MOk w n){hd:Header}(hm:0≤hd.map∧hd.map≤4294967295):MOk (w.put hd) (n+1):=by
 unfold WorldM.put
 split
 ·rename_i e
  obtain⟨k1,k2,k3,k4,k5,k6,k7,k8⟩:=ZlD h.words hm e
  have po:=Z0a k1
  have hl:=h.sl
  have hl2:=h.wl
  have z:=(Za7 k2).2.1
  have a1:=k3.lo
  have a2:=k3.hi
  refine MOk.of_proper k7 k8 ?_ (Zcq h.strong (by rw[k5];omega)) h.weak (by simp;omega) (by simp only;omega)
  intro p hp
  simp only at hp
  rw[k6]at hp
  simp only at hp
  rcases k3.pin p hp with q | ⟨q,q1,q2⟩
  ·omega
  ·have:=h.pin_mem q q1;omega
 ·exact h.mono
theorem MOk.link{w:WorldM}{n:Nat}(h:MOk w n)(hn:n≤1000000)(t:Tape):MOk (w.link t) (n+1):=by
 unfold WorldM.link
 split
 ·rename_i hc
  have g:=Z4D hc.1
  have hw:=h.wm hn
  have hlen:1≤(getH w.heap (w.pick t)).1.length:=by omega
  have n1:=Z0d (w.pickT (w.pickT t)) (n:=8) (by decide)
  have hi:0≤Z1T w t∧Z1T w t<(getH w.heap (w.pick t)).1.length:=by
   unfold Z1T
   rw[Int.tmod_eq_emod_of_nonneg n1.1]
   exact⟨Int.emod_nonneg _ (by omega),Int.emod_lt_of_pos _ (by omega)⟩
  have hv:0≤Z23 w t∧Z23 w t≤18446744073709551615:=by
   unfold Z23
   split
   ·exact Z3x hw _
   ·have:=Z0d ((w.pickT (w.pickT t)).step 8) (n:=1048576) (by decide)
    omega
  obtain⟨s1,s2,s3⟩:=Zdc h.words hv hc.1 hi
  have hl:=h.sl
  have hl2:=h.wl
  refine MOk.of_proper s2 s3 ?_ h.strong h.weak (by simp only;omega) (by simp only;omega)
  intro p hp
  simp only at hp
  rw[s1]at hp
  have:=h.pin_mem p hp
  omega
 ·exact h.mono
theorem ZhV{w:WorldM}{n:Nat}(h:MOk w n){i:Nat}(hi:i<w.heap.pages.length){d:Int}(hd:d=1∨(d=-1∧0<(w.heap.pages.getD i default).pins)):MOk (pinB w i d) (n+1):=by
 have hp:=h.pins i hi
 refine⟨h.words,h.hv, ?_,h.L, ?_, ?_,h.strong,h.weak,by have:=h.sl;simp only[pinB];omega,by have:=h.wl;simp only[pinB];omega⟩
 ·simp only[pinB,List.length_set];exact h.pl
 ·intro j hj
  simp only[pinB,List.length_set]at hj ⊢
  rw[Z1u hi]
  split
  ·simp only;omega
  ·have:=h.pins j hj;omega
 ·intro j hj
  simp only[pinB,List.length_set]at hj ⊢
  rw[Z1u hi]
  split
  ·exact h.us i hi
  ·exact h.us j hj
theorem MOk.pin{w:WorldM}{n:Nat}(h:MOk w n)(t:Tape):MOk (w.pin t) (n+1):=by
 unfold WorldM.pin
 split
 ·rename_i e
  have o:=Z4v h.hv e
  have hpl:=h.pl
  have hi:pinI w t<w.heap.pages.length:=by unfold pinI;omega
  split
  ·rename_i hc
   exact ZhV h hi (Or.inr ⟨rfl,hc.1⟩)
  ·split
   ·exact ZhV h hi (Or.inl rfl)
   ·exact h.mono
 ·exact h.mono
theorem MOk.drop{w:WorldM}{n:Nat}(h:MOk w n)(t:Tape):MOk (w.drop t) (n+1):=by
 unfold WorldM.drop
 split
 ·have hl:=h.sl
  have hl2:=h.wl
  refine⟨h.words,h.hv,h.pl,h.L,fun j hj=>by have:=h.pins j hj;simp only;omega,h.us, ?_, ?_, ?_, ?_⟩
  ·intro x hx
   rcases List.mem_append.1 hx with hx | hx
   ·exact h.strong x (List.mem_of_mem_take hx)
   ·exact h.strong x (List.mem_of_mem_drop hx)
  ·simp only
   split
   ·exact Zcq h.weak (Z40 h.strong _)
   ·exact h.weak
  ·simp only[List.length_append,List.length_take,List.length_drop];omega
  ·simp only
   split
   ·simp;omega
   ·omega
 ·exact h.mono
theorem MOk.collect{w:WorldM}{n:Nat}(h:MOk w n):MOk w.collect (n+1):=by
 unfold WorldM.collect
 split
 ·rename_i e
  have c:=ZfH (B:=n) (by omega) h.words (fun p hp=>(h.pin_mem p hp).2) e
  have hl:=h.sl
  have hl2:=h.wl
  refine MOk.of_proper c.p1 c.w (fun p hp=>by have:=c.n p hp;omega) (fun x hx=>by have:=c.r x hx;omega) (fun x hx=>by have:=c.v x hx;omega) (by simp only[c.rl];omega) (by simp only[c.vl];omega)
 ·exact h.mono
theorem MOk.step{w:WorldM}{n:Nat}(h:MOk w n)(hn:n≤1000000)(t:Tape):MOk (w.step t) (n+1):=by
 unfold WorldM.step
 repeat' split
 ·exact h.put (Z8S _ _)
 ·exact h.link hn _
 ·exact h.pin _
 ·exact h.drop _
 ·exact h.collect
 ·have hl:=h.sl
  have hl2:=h.wl
  exact⟨h.words,h.hv,h.pl,h.L,fun j hj=>by have:=h.pins j hj;simp only[WorldM.dup]at *;omega,h.us,Zcq h.strong (Z3x (h.wm hn) _),h.weak,by simp only[WorldM.dup,List.length_append,List.length_singleton];omega,by simp only[WorldM.dup];omega⟩
theorem ZaT(h:Heap):GSpec Tryz.prog 41 [h.av] true (bool (decide (h.words.length≤5000∧h.pages.length≤100))) []:=by
 exact gF [] Tryz.func41 [false,false,false,false,true] (Fl 5 wdv h.words (FlG 10 (decide ((↑h.words.length:Int)≤5000)) Page.dv h.pages (Fa (by grind[]:(decide ((↑h.words.length:Int)≤5000)&&decide ((↑h.pages.length:Int)≤100))=decide (h.words.length≤5000∧h.pages.length≤100)) Fz)))
theorem Z6J(w:WorldM)(t:Tape)(n:Nat)(hm:MOk w n)(hn:n≤1000000)(ht:TOk t)(ha:t.at'≤900000):LentSpec Tryz.prog 77 [w.av,.pt 0 0 0] [t.b] (w.step t).av [(w.stepT t).b] :=
 Zgk w t n hm hn ht ha
structure TUp (n:Int) (t u:Tape):Prop where
 l:u.l=t.l
 lo:t.at'≤u.at'
 hi:u.at'≤t.at'+n
theorem TUp.step(t:Tape)(n:Int):TUp 1 t (t.step n):=by
 have:=Z0u (t:=t) n
 exact⟨this.2.2,this.1,this.2.1⟩
theorem TUp.trans{m n:Int}{t u v:Tape}(h1:TUp m t u)(h2:TUp n u v):TUp (m+n) t v :=
 ⟨h2.l.trans h1.l,by have:=h1.lo;have:=h2.lo;omega,by have:=h1.hi;have:=h2.hi;omega⟩
theorem TUp.mono{m n:Int}{t u:Tape}(h:TUp m t u)(hmn:m≤n):TUp n t u:=⟨h.l,h.lo,by have:=h.hi;omega⟩
theorem ZeZ(t:Tape)(c:Conf):TUp 10 t (t.headerT c):=by
 have h1:TUp 4 t (Z1A t c):=by
  unfold Z1A
  split
  ·exact(((TUp.step t _).trans (TUp.step _ 12)).trans (TUp.step _ _)).mono (by decide)
  ·exact((TUp.step t _).trans (TUp.step _ 12)).mono (by decide)
 unfold Tape.headerT
 repeat' split
 ·exact(h1.trans (TUp.step _ 4)).mono (by decide)
 ·exact(h1.trans (TUp.step _ 4)).mono (by decide)
 ·exact((h1.trans (TUp.step _ 4)).trans (TUp.step _ _)).mono (by decide)
theorem ZiY(w:WorldM)(t:Tape):TUp 10 t (w.linkT t):=by
 have h1:TUp 1 t (w.pickT t):=TUp.step _ _
 have h2:TUp 1 (w.pickT t) (w.pickT (w.pickT t)):=TUp.step _ _
 unfold WorldM.linkT
 split
 ·exact((((h1.trans h2).trans (TUp.step _ 8))).trans (TUp.step _ _)).mono (by decide)
 ·exact((h1.trans h2).trans (TUp.step _ 8)).mono (by decide)
theorem Zid(w:WorldM)(t:Tape):(w.stepT t).l=t.l∧t.at'+1≤(w.stepT t).at'∧(w.stepT t).at'≤t.at'+20:=by
 have h0:(t.step 12).at'=t.at'+1∧(t.step 12).l=t.l:=by simp[Tape.step]
 have key:TUp 10 (t.step 12) (w.stepT t):=by
  unfold WorldM.stepT
  repeat' split
  ·exact ZeZ _ _
  ·exact ZiY _ _
  ·unfold WorldM.pinT
   split
   ·exact((TUp.step _ _).trans (TUp.step _ 2)).mono (by decide)
   ·exact(TUp.step _ _).mono (by decide)
  ·unfold WorldM.dropT
   split
   ·exact((TUp.step _ _).trans (TUp.step _ 3)).mono (by decide)
   ·exact⟨rfl,by omega,by omega⟩
  ·exact⟨rfl,by omega,by omega⟩
  ·exact(TUp.step _ _).mono (by decide)
 have a:=key.l
 have b:=key.lo
 have c:=key.hi
 exact⟨a.trans h0.2,by omega,by omega⟩
def mkS(w:WorldM)(t:Tape):Nat→WorldM×Tape
 | 0=>(w,t)
 | k+1=>((mkS w t k).1.step (mkS w t k).2,(mkS w t k).1.stepT (mkS w t k).2)
def mkB(w:WorldM)(t:Tape)(k:Nat):Bool:=decide (((mkS w t k).2.l.length:Int)≤(mkS w t k).2.at')
def mkN(w:WorldM)(t:Tape):Nat:=((List.range (2+t.l.length)).find? (mkB w t)).getD 0
def Zcn(w:WorldM)(t:Tape):WorldM:=(mkS w t (mkN w t)).1
theorem ZdT(w:WorldM)(t:Tape):∀ k:Nat,(mkS w t k).2.l=t.l∧t.at'+k≤(mkS w t k).2.at'∧(mkS w t k).2.at'≤t.at'+20*k
 | 0=>by simp[mkS]
 | k+1=>by
  have ih:=ZdT w t k
  have:=Zid (mkS w t k).1 (mkS w t k).2
  refine⟨this.1.trans ih.1, ?_, ?_⟩
  ·simp only[mkS];omega
  ·simp only[mkS];omega
theorem Zdx{w:WorldM}{n:Nat}(h:MOk w n)(t:Tape):∀ k,n+k≤1000000→MOk (mkS w t k).1 (n+k)
 | 0,_=>h
 | k+1,hk=>(Zdx h t k (by omega)).step (by omega) _
theorem Zi3(w:WorldM)(t:Tape)(ht:0≤t.at'):mkB w t (mkN w t)=true∧(∀ j,j<mkN w t→mkB w t j=false)∧mkN w t≤t.l.length+1:=by
 cases hb:(List.range (2+t.l.length)).find? (mkB w t)with
 | none =>
  exfalso
  have:=List.find?_eq_none.1 hb t.l.length (List.mem_range.2 (by omega))
  have u:=ZdT w t t.l.length
  simp only[mkB,decide_eq_true_eq,u.1]at this
  omega
 | some k =>
  obtain⟨h1,h2,h3⟩:=List.find?_range_eq_some.1 hb
  have h2:=List.mem_range.1 h2
  have e:mkN w t=k:=by rw[mkN,hb];rfl
  rw[e]
  exact⟨h1,fun j hj=>by simpa using h3 j hj,by omega⟩
def mkLA(w:WorldM)(t:Tape):Tg:=⟨tm 22 [(2,.pt 8002 0 0),(3,.pt 32012 0 0),(4,.pt 40004 0 0)],[(40004,.box 30 w.cells),(32012,t.b),(8002,.box 30 [int 0,int 0,.d (.sl 0 []),.d (.sl 0 []),int 0,int 0,.d (.sl 0 []),.d (.sl 0 [])])],60⟩
theorem Zie(w:WorldM)(t:Tape)(n:Nat)(hm:MOk w n)(hn:n≤1000000)(ht:TOk t)(ha:t.at'≤900000)(hd:t.at'<t.l.length):CSpec Tryz.prog (rndF Tryz.f15 0) (mkLA w t).st .nrm (mkLA (w.step t) (w.stepT t)).st:=by
 exact sF [] [] (Fp 16 (@Z78 t ‹_›) (Ftb 17 (!decide ((↑t.l.length:Int)≤t.at')) (Fp 20 (@Z6J w t n ‹_› ‹_› ‹_› ‹_›) Fz)))
theorem Zmd(w:WorldM)(t:Tape)(ht:TOk t)(hd:¬ t.at'<t.l.length):CSpec Tryz.prog (rndF Tryz.f15 0) (mkLA w t).st (.ext 0) (Tg.st ⟨tm 22 [(2,.pt 8002 0 0),(4,.pt 40004 0 0)],[(40004,.box 30 w.cells),(8002,.box 30 [int 0,int 0,.d (.sl 0 []),.d (.sl 0 []),int 0,int 0,.d (.sl 0 []),.d (.sl 0 [])])],60⟩):=by
 exact sF [] [] (Fp 16 (@Z78 t ‹_›) (Ffb 17 (!decide ((↑t.l.length:Int)≤t.at')) Fz))
theorem ZkK(w:WorldM)(t:Tape)(hm:MOk w 0)(hl:t.l.length≤300)(h0:0≤t.at')(h1:t.at'≤1000):CSpec Tryz.prog (blkF Tryz.f15 0) (Tg.st ⟨tm 22 [(2,.pt 8002 0 0),(3,.pt 32012 0 0),(4,.pt 40004 0 0)],[(40004,.box 30 w.cells),(32012,t.b),(8002,.box 30 [int 0,int 0,.d (.sl 0 []),.d (.sl 0 []),int 0,int 0,.d (.sl 0 []),.d (.sl 0 [])])],60⟩) .nrm (Tg.st ⟨tm 22 [(2,.pt 8002 0 0),(4,.pt 40004 0 0)],[(40004,.box 30 (Zcn w t).cells),(8002,.box 30 [int 0,int 0,.d (.sl 0 []),.d (.sl 0 []),int 0,int 0,.d (.sl 0 []),.d (.sl 0 [])])],60⟩):=by
 have hk:=Zi3 w t h0
 have tok:∀ k,k≤mkN w t→TOk (mkS w t k).2∧(mkS w t k).2.at'≤900000:=fun k hk'=>by
  have u:=ZdT w t k
  refine⟨?_,by omega⟩
  unfold TOk
  rw[u.1]
  omega
 refine Z0b (S:=fun k=>(mkLA (mkS w t k).1 (mkS w t k).2).st) (mkN w t) (by kernel_rfl) (fun k hk'=>?_) ?_
 ·have hs:=hk.2.1 k hk'
  simp only[mkB,decide_eq_false_iff_not]at hs
  have m:=Zdx hm t k (by omega)
  exact Zie _ _ (0+k) m (by omega) (tok k (by omega)).1 (tok k (by omega)).2 (by omega)
 ·have hs:=hk.1
  simp only[mkB,decide_eq_true_eq]at hs
  exact Zmd _ _ (tok _ (Nat.le_refl _)).1 (by omega)
def mkLB(w:WorldM)(t:Tape):Tg:=⟨tm 22 [(2,.pt 8002 0 0),(3,.pt 24012 0 0),(4,.pt 32004 0 0)],[(32004,.box 30 w.cells),(24012,t.b),(8002,.box 30 [int 0,int 0,.d (.sl 0 []),.d (.sl 0 []),int 0,int 0,.d (.sl 0 []),.d (.sl 0 [])])],60⟩
theorem Zj6(w:WorldM)(t:Tape)(n:Nat)(hm:MOk w n)(hn:n≤1000000)(ht:TOk t)(ha:t.at'≤900000)(hd:t.at'<t.l.length):CSpec Tryz.prog (rndF Tryz.f15 0) (mkLB w t).st .nrm (mkLB (w.step t) (w.stepT t)).st:=by
 exact sF [] [] (Fp 16 (@Z78 t ‹_›) (Ftb 17 (!decide ((↑t.l.length:Int)≤t.at')) (Fp 20 (@Z6J w t n ‹_› ‹_› ‹_› ‹_›) Fz)))
theorem Zmh(w:WorldM)(t:Tape)(ht:TOk t)(hd:¬ t.at'<t.l.length):CSpec Tryz.prog (rndF Tryz.f15 0) (mkLB w t).st (.ext 0) (Tg.st ⟨tm 22 [(2,.pt 8002 0 0),(4,.pt 32004 0 0)],[(32004,.box 30 w.cells),(8002,.box 30 [int 0,int 0,.d (.sl 0 []),.d (.sl 0 []),int 0,int 0,.d (.sl 0 []),.d (.sl 0 [])])],60⟩):=by
 exact sF [] [] (Fp 16 (@Z78 t ‹_›) (Ffb 17 (!decide ((↑t.l.length:Int)≤t.at')) Fz))
theorem ZkA(w:WorldM)(t:Tape)(hm:MOk w 0)(hl:t.l.length≤300)(h0:0≤t.at')(h1:t.at'≤1000):CSpec Tryz.prog (blkF Tryz.f15 0) (Tg.st ⟨tm 22 [(2,.pt 8002 0 0),(3,.pt 24012 0 0),(4,.pt 32004 0 0)],[(32004,.box 30 w.cells),(24012,t.b),(8002,.box 30 [int 0,int 0,.d (.sl 0 []),.d (.sl 0 []),int 0,int 0,.d (.sl 0 []),.d (.sl 0 [])])],60⟩) .nrm (Tg.st ⟨tm 22 [(2,.pt 8002 0 0),(4,.pt 32004 0 0)],[(32004,.box 30 (Zcn w t).cells),(8002,.box 30 [int 0,int 0,.d (.sl 0 []),.d (.sl 0 []),int 0,int 0,.d (.sl 0 []),.d (.sl 0 [])])],60⟩):=by
 have hk:=Zi3 w t h0
 have tok:∀ k,k≤mkN w t→TOk (mkS w t k).2∧(mkS w t k).2.at'≤900000:=fun k hk'=>by
  have u:=ZdT w t k
  refine⟨?_,by omega⟩
  unfold TOk
  rw[u.1]
  omega
 refine Z0b (S:=fun k=>(mkLB (mkS w t k).1 (mkS w t k).2).st) (mkN w t) (by kernel_rfl) (fun k hk'=>?_) ?_
 ·have hs:=hk.2.1 k hk'
  simp only[mkB,decide_eq_false_iff_not]at hs
  have m:=Zdx hm t k (by omega)
  exact Zj6 _ _ (0+k) m (by omega) (tok k (by omega)).1 (tok k (by omega)).2 (by omega)
 ·have hs:=hk.1
  simp only[mkB,decide_eq_true_eq]at hs
  exact Zmh _ _ (tok _ (Nat.le_refl _)).1 (by omega)
def Z4h(l:List Int):Tape:=⟨l.take 300,0⟩
def Z06(l:List Int):WorldM:=Zcn (Z4h l).empty (((Z4h l).step 4).step 5)
theorem ZdL(t:Tape):MOk t.empty 0:=by
 have hv:=Z4z t
 have hb:=validB_iff.1 hv
 refine⟨?_,hv, ?_, ?_, ?_, ?_, ?_, ?_,by simp[Tape.empty],by simp[Tape.empty]⟩
 ·intro x hx
  simp only[Tape.empty,Z3r,List.mem_replicate]at hx
  omega
 ·simp only[Tape.empty,Z3r,List.length_replicate];omega
 ·have:=area hv
  simp only[Tape.empty,Z3r,List.length_replicate];omega
 ·intro j hj
  simp only[Tape.empty,Z3r,List.length_replicate]at hj ⊢
  have:(List.replicate t.conf.pg.toNat (⟨0,0,0,0⟩:Page)).getD j default=⟨0,0,0,0⟩:=by simp[List.getD_eq_getElem?_getD,hj]
  rw[this];simp
 ·intro j hj
  simp only[Tape.empty,Z3r,List.length_replicate]at hj ⊢
  have:(List.replicate t.conf.pg.toNat (⟨0,0,0,0⟩:Page)).getD j default=⟨0,0,0,0⟩:=by simp[List.getD_eq_getElem?_getD,hj]
  rw[this];simp
 ·intro x hx;simp[Tape.empty]at hx
 ·intro x hx;simp[Tape.empty]at hx
theorem Z9k(l:List Int):(((Z4h l).step 4).step 5).l=l.take 300∧(((Z4h l).step 4).step 5).at'=2:=by simp[Z4h,Tape.step]
theorem ZiP(l:List Int):MOk (Z06 l) 1000:=by
 have e:=Z9k l
 have hl:(((Z4h l).step 4).step 5).l.length≤300:=by rw[e.1];simp;omega
 have hk:=Zi3 (Z4h l).empty (((Z4h l).step 4).step 5) (by omega)
 have m:=Zdx (ZdL (Z4h l)) (((Z4h l).step 4).step 5) (mkN (Z4h l).empty (((Z4h l).step 4).step 5)) (by omega)
 have h2:∀ (w:WorldM) (a b:Nat),MOk w a→a≤b→MOk w b:=fun w a b h hab =>
  ⟨h.words,h.hv,h.pl,h.L,fun j hj=>by have:=h.pins j hj;omega,h.us,h.strong,h.weak,by have:=h.sl;omega,by have:=h.wl;omega⟩
 exact h2 _ _ _ m (by omega)
theorem Zey(l:List Int)(hl:l.length≤140737488355328):GSpec Tryz.prog 15 [Z0E l] false (Z06 l).av []:=by
 have e:=Z9k l
 have he:=ZdL (Z4h l)
 have h1:(((Z4h l).step 4).step 5).l.length≤300:=by rw[e.1];simp;omega
 have h2:=e.2
 by_cases h:300<l.length
 ·have ht:TOk ⟨List.take (Int.toNat 300) l,0⟩:=by simp[TOk];omega
  have e9:Z4h l=⟨List.take (Int.toNat 300) l,0⟩:=rfl
  unfold Z06
  rw[e9]at he h1 h2 ⊢
  exact gF [] Tryz.func15 [] (Fh 9 [.els (List.map idv (List.take (Int.toNat 300) l))] (Fl 6 idv l (Ftb 7 (decide (300<(↑l.length:Int))) (Fa (by(simp only[List.length_map];omega):(0:Int)≤(300:Int)∧300≤(↑(List.map idv l).length:Int)) (Fa (by simp[List.map_take,List.map_drop,List.map_set,List.map_append,wdv,idv]:List.take (Int.toNat 300) (List.map idv l)=List.map idv (List.take (Int.toNat 300) l)) (Fp 14 (@Zc9 (Tape.mk (List.take (Int.toNat 300) l) 0) ‹_› (by(simp only[bs];omega))) (Fu (@ZkK ((Tape.mk (List.take (Int.toNat 300) l) 0).empty) (((Tape.mk (List.take (Int.toNat 300) l) 0).step 4).step 5) ‹_› ‹_› (by omega) (by omega)) Fz)))))))
 ·have ht:TOk ⟨l,0⟩:=by simp[TOk];omega
  have e9:Z4h l=⟨l,0⟩:=by rw[Z4h,List.take_of_length_le (by omega)]
  unfold Z06
  rw[e9]at he h1 h2 ⊢
  exact gF [] Tryz.func15 [] (Fl 6 idv l (Ffb 7 (decide (300<(↑l.length:Int))) (Fp 14 (@Zc9 (Tape.mk l 0) ‹_› (by(simp only[bs];omega))) (Fu (@ZkA ((Tape.mk l 0).empty) (((Tape.mk l 0).step 4).step 5) ‹_› ‹_› (by omega) (by omega)) Fz))))
structure SOk (w:WorldM):Prop where
 words:WOk w.heap.words
 wl:1≤w.heap.words.length∧w.heap.words.length≤4096
 pl:1≤w.heap.pages.length∧w.heap.pages.length≤64
 cw:-1000≤w.heap.conf.pw∧w.heap.conf.pw≤1000
theorem MOk.so{w:WorldM}{n:Nat}(hm:MOk w n):SOk w:=by
 have a1:=area hm.hv
 have a2:=validB_iff.1 hm.hv
 have a3:=hm.L
 have a4:=hm.pl
 exact⟨hm.words,by omega,by omega,by omega⟩
def spT2(w:WorldM)(t:Tape):Tape:=(t.step (w.heap.words.length:Int)).step (w.heap.pages.length:Int)
def spT3(w:WorldM)(t:Tape):Tape:=(spT2 w t).step 12
def spI(w:WorldM)(t:Tape):Nat:=(t.next (w.heap.words.length:Int)).toNat
def spP(w:WorldM)(t:Tape):Nat:=((t.step (w.heap.words.length:Int)).next (w.heap.pages.length:Int)).toNat
def spPg(w:WorldM)(t:Tape):Page:=w.heap.pages.getD (spP w t) default
def spList:List Int:=[0,1,5,21,4096,4097,4112,16386,1099511627776,61]
def pinQ(p:Page):Page:=if p.kind=1 then⟨p.kind,p.space,p.used,1⟩else p
def spV(w:WorldM)(t:Tape)(d:Int):Int:=if d≤1 then spList.getD ((spT3 w t).next 10).toNat default else bits .xor .u64 (w.heap.words.getD (spI w t) default) (IntKind.u64.wrap (1*2^min ((spT3 w t).next 64).toNat 64))
def spQ(w:WorldM)(t:Tape)(d:Int):Page :=
 if d=3 then⟨(spT3 w t).next 5,(spPg w t).space,(spPg w t).used,(spPg w t).pins⟩
 else if d=4 then⟨(spPg w t).kind,(spT3 w t).next 3,(spPg w t).used,(spPg w t).pins⟩
 else if d=5 then⟨(spPg w t).kind,(spPg w t).space,(spPg w t).used+(spT3 w t).next 9-4,(spPg w t).pins⟩
 else⟨(spPg w t).kind,(spPg w t).space,(spPg w t).used,(spT3 w t).next 3-1⟩
def spH(w:WorldM)(t:Tape)(d:Int):Heap :=
 if d≤2 then⟨w.heap.conf,w.heap.words.set (spI w t) (spV w t d),w.heap.pages,w.heap.space,w.heap.bump⟩
 else if d≤6 then⟨w.heap.conf,w.heap.words,w.heap.pages.set (spP w t) (spQ w t d),w.heap.space,w.heap.bump⟩
 else if d=7 then⟨w.heap.conf,w.heap.words,w.heap.pages,(spT3 w t).next 3,w.heap.bump⟩
 else if d=8 then⟨w.heap.conf,w.heap.words,w.heap.pages,w.heap.space,(spT3 w t).next ((w.heap.pages.length+2:Nat):Int)-1⟩
 else if d=9 then⟨⟨w.heap.conf.pw+4,w.heap.conf.pg⟩,w.heap.words,w.heap.pages,w.heap.space,w.heap.bump⟩
 else if d=10 then⟨w.heap.conf,w.heap.words,w.heap.pages.drop 1,w.heap.space,w.heap.bump⟩
 else⟨w.heap.conf,w.heap.words,w.heap.pages.map pinQ,w.heap.space,w.heap.bump⟩
def spN(w:WorldM)(d:Int):Int:=if d≤1 then 10 else if d=2 then 64 else if d=3 then 5 else if d=4 then 3 else if d=5 then 9 else if d=6 then 3 else if d=7 then 3 else if d=8 then((w.heap.pages.length+2:Nat):Int)else 0
def WorldM.spoil(w:WorldM)(t:Tape):WorldM:=⟨spH w t ((spT2 w t).next 12),w.strong,w.weak⟩
def WorldM.spoilT(w:WorldM)(t:Tape):Tape:=if(spT2 w t).next 12≤8 then(spT3 w t).step (spN w ((spT2 w t).next 12))else spT3 w t
section
variable (w:WorldM) (t:Tape) (hm:SOk w) (ht:TOk t) (ha:t.at'≤900000) (hus:∀ j,j<w.heap.pages.length→-1099511627776≤(w.heap.pages.getD j default).used∧(w.heap.pages.getD j default).used≤1099511627776)
include hm ht ha hus
theorem Zm2(hd:(spT2 w t).next 12=0):LentSpec Tryz.prog 40 [w.av,.pt 0 0 0] [t.b] (w.spoil t).av [(w.spoilT t).b]:=by
 have e7:w.spoil t=⟨⟨w.heap.conf,w.heap.words.set (spI w t) (spV w t 0),w.heap.pages,w.heap.space,w.heap.bump⟩,w.strong,w.weak⟩:=by simp[WorldM.spoil,spH,hd]
 have e8:w.spoilT t=(spT3 w t).step 10:=by simp[WorldM.spoilT,spN,hd]
 have s1:=Z0u (t:=t) (w.heap.words.length:Int)
 have s2:(t.step (w.heap.words.length:Int)).at'≤(spT2 w t).at'∧(spT2 w t).at'≤(t.step (w.heap.words.length:Int)).at'+1∧(spT2 w t).l=(t.step (w.heap.words.length:Int)).l:=Z0u _
 have s3:(spT2 w t).at'≤(spT3 w t).at'∧(spT3 w t).at'≤(spT2 w t).at'+1∧(spT3 w t).l=(spT2 w t).l:=Z0u _
 have k1:=Z0I ht s1.2.2 (by omega) (by omega)
 have k2:TOk (spT2 w t):=Z0I k1 s2.2.2 (by omega) (by omega)
 have k3:TOk (spT3 w t):=Z0I k2 s3.2.2 (by omega) (by omega)
 have a1:=hm.wl
 have a2:=hm.pl
 have a3:=hm.cw
 have hw:=hm.words
 have n1:=Z0d t (n:=(w.heap.words.length:Int)) (by omega)
 have n2:=Z0d (t.step (w.heap.words.length:Int)) (n:=(w.heap.pages.length:Int)) (by omega)
 have n3:=Z0d (spT3 w t) (n:=10) (by omega)
 rw[e7,e8]
 unfold spT3 spT2 at *
 exact lF Tryz.func40 [] (Fh 43 [.el (wdv ([0,1,5,21,4096,4097,4112,16386,1099511627776,61].getD ((((t.step (↑w.heap.words.length:Int)).step (↑w.heap.pages.length:Int)).step 12).next 10).toNat default))] (Fh 10044 [.els (List.map wdv (w.heap.words.set (t.next (↑w.heap.words.length:Int)).toNat ([0,1,5,21,4096,4097,4112,16386,1099511627776,61].getD ((((t.step (↑w.heap.words.length:Int)).step (↑w.heap.pages.length:Int)).step 12).next 10).toNat default)))] (Fs 11 (List.map wdv []) (Fa (by(simp only[List.length_map,List.length_cons,List.length_nil];omega):(List.map wdv []).length+(List.map wdv w.heap.words).length≤2^30) (Fs 14 (List.map wdv w.heap.words) (Fs 15 (List.map Page.dv []) (Fa (by(simp only[List.length_map,List.length_cons,List.length_nil];omega):(List.map Page.dv []).length+(List.map Page.dv w.heap.pages).length≤2^30) (Fs 18 (List.map Page.dv w.heap.pages) (Fl 24 wdv w.heap.words (Fp 25 (@Z0f t ((↑w.heap.words.length:Int)) ‹_› (by omega) (by omega)) (Fl 29 Page.dv w.heap.pages (Fp 30 (@Z0f (t.step (↑w.heap.words.length:Int)) ((↑w.heap.pages.length:Int)) ‹_› (by omega) (by omega)) (Fp 32 (@Z0O ((t.step (↑w.heap.words.length:Int)).step (↑w.heap.pages.length:Int)) (0) ‹_› ‹_›) (Fs 39 (List.map wdv [0,1,5,21,4096,4097,4112,16386,1099511627776,61]) (Fp 41 (@Z0f (((t.step (↑w.heap.words.length:Int)).step (↑w.heap.pages.length:Int)).step 12) (10) ‹_› (by omega) (by omega)) (Fa (by(simp only[List.length_map,List.length_cons,List.length_nil];omega):0≤(((t.step (↑w.heap.words.length:Int)).step (↑w.heap.pages.length:Int)).step 12).next 10∧((((t.step (↑w.heap.words.length:Int)).step (↑w.heap.pages.length:Int)).step 12).next 10).toNat<(List.map wdv [0,1,5,21,4096,4097,4112,16386,1099511627776,61]).length) (Fa (by exact Z1c (by simp only[List.length_cons,List.length_nil];omega):(List.map wdv [0,1,5,21,4096,4097,4112,16386,1099511627776,61])[((((t.step (↑w.heap.words.length:Int)).step (↑w.heap.pages.length:Int)).step 12).next 10).toNat]? = some (wdv ([0,1,5,21,4096,4097,4112,16386,1099511627776,61].getD ((((t.step (↑w.heap.words.length:Int)).step (↑w.heap.pages.length:Int)).step 12).next 10).toNat default))) (Fa (by(simp only[List.length_map,List.length_cons,List.length_nil];omega):0≤t.next (↑w.heap.words.length:Int)∧(t.next (↑w.heap.words.length:Int)).toNat<(List.map wdv w.heap.words).length) (Fa (by(simp only[List.length_map,List.length_cons,List.length_nil];omega):(t.next (↑w.heap.words.length:Int)).toNat<(List.map wdv w.heap.words).length) (Fa (by simp[spV,spQ,spPg,spI,spP,spT3,spT2,spList,List.map_take,List.map_drop,List.map_set,List.map_append,wdv,idv]:(List.map wdv w.heap.words).set (t.next (↑w.heap.words.length:Int)).toNat [du64 ([0,1,5,21,4096,4097,4112,16386,1099511627776,61].getD ((((t.step (↑w.heap.words.length:Int)).step (↑w.heap.pages.length:Int)).step 12).next 10).toNat default)]=List.map wdv (w.heap.words.set (t.next (↑w.heap.words.length:Int)).toNat ([0,1,5,21,4096,4097,4112,16386,1099511627776,61].getD ((((t.step (↑w.heap.words.length:Int)).step (↑w.heap.pages.length:Int)).step 12).next 10).toNat default))) Fz))))))))))))))))))))
theorem Zmv(hd:(spT2 w t).next 12=1):LentSpec Tryz.prog 40 [w.av,.pt 0 0 0] [t.b] (w.spoil t).av [(w.spoilT t).b]:=by
 have e7:w.spoil t=⟨⟨w.heap.conf,w.heap.words.set (spI w t) (spV w t 1),w.heap.pages,w.heap.space,w.heap.bump⟩,w.strong,w.weak⟩:=by simp[WorldM.spoil,spH,hd]
 have e8:w.spoilT t=(spT3 w t).step 10:=by simp[WorldM.spoilT,spN,hd]
 have s1:=Z0u (t:=t) (w.heap.words.length:Int)
 have s2:(t.step (w.heap.words.length:Int)).at'≤(spT2 w t).at'∧(spT2 w t).at'≤(t.step (w.heap.words.length:Int)).at'+1∧(spT2 w t).l=(t.step (w.heap.words.length:Int)).l:=Z0u _
 have s3:(spT2 w t).at'≤(spT3 w t).at'∧(spT3 w t).at'≤(spT2 w t).at'+1∧(spT3 w t).l=(spT2 w t).l:=Z0u _
 have k1:=Z0I ht s1.2.2 (by omega) (by omega)
 have k2:TOk (spT2 w t):=Z0I k1 s2.2.2 (by omega) (by omega)
 have k3:TOk (spT3 w t):=Z0I k2 s3.2.2 (by omega) (by omega)
 have a1:=hm.wl
 have a2:=hm.pl
 have a3:=hm.cw
 have hw:=hm.words
 have n1:=Z0d t (n:=(w.heap.words.length:Int)) (by omega)
 have n2:=Z0d (t.step (w.heap.words.length:Int)) (n:=(w.heap.pages.length:Int)) (by omega)
 have n3:=Z0d (spT3 w t) (n:=10) (by omega)
 rw[e7,e8]
 unfold spT3 spT2 at *
 exact lF Tryz.func40 [] (Fh 43 [.el (wdv ([0,1,5,21,4096,4097,4112,16386,1099511627776,61].getD ((((t.step (↑w.heap.words.length:Int)).step (↑w.heap.pages.length:Int)).step 12).next 10).toNat default))] (Fh 10044 [.els (List.map wdv (w.heap.words.set (t.next (↑w.heap.words.length:Int)).toNat ([0,1,5,21,4096,4097,4112,16386,1099511627776,61].getD ((((t.step (↑w.heap.words.length:Int)).step (↑w.heap.pages.length:Int)).step 12).next 10).toNat default)))] (Fs 11 (List.map wdv []) (Fa (by(simp only[List.length_map,List.length_cons,List.length_nil];omega):(List.map wdv []).length+(List.map wdv w.heap.words).length≤2^30) (Fs 14 (List.map wdv w.heap.words) (Fs 15 (List.map Page.dv []) (Fa (by(simp only[List.length_map,List.length_cons,List.length_nil];omega):(List.map Page.dv []).length+(List.map Page.dv w.heap.pages).length≤2^30) (Fs 18 (List.map Page.dv w.heap.pages) (Fl 24 wdv w.heap.words (Fp 25 (@Z0f t ((↑w.heap.words.length:Int)) ‹_› (by omega) (by omega)) (Fl 29 Page.dv w.heap.pages (Fp 30 (@Z0f (t.step (↑w.heap.words.length:Int)) ((↑w.heap.pages.length:Int)) ‹_› (by omega) (by omega)) (Fp 32 (@Z0O ((t.step (↑w.heap.words.length:Int)).step (↑w.heap.pages.length:Int)) (1) ‹_› ‹_›) (Fs 39 (List.map wdv [0,1,5,21,4096,4097,4112,16386,1099511627776,61]) (Fp 41 (@Z0f (((t.step (↑w.heap.words.length:Int)).step (↑w.heap.pages.length:Int)).step 12) (10) ‹_› (by omega) (by omega)) (Fa (by(simp only[List.length_map,List.length_cons,List.length_nil];omega):0≤(((t.step (↑w.heap.words.length:Int)).step (↑w.heap.pages.length:Int)).step 12).next 10∧((((t.step (↑w.heap.words.length:Int)).step (↑w.heap.pages.length:Int)).step 12).next 10).toNat<(List.map wdv [0,1,5,21,4096,4097,4112,16386,1099511627776,61]).length) (Fa (by exact Z1c (by simp only[List.length_cons,List.length_nil];omega):(List.map wdv [0,1,5,21,4096,4097,4112,16386,1099511627776,61])[((((t.step (↑w.heap.words.length:Int)).step (↑w.heap.pages.length:Int)).step 12).next 10).toNat]? = some (wdv ([0,1,5,21,4096,4097,4112,16386,1099511627776,61].getD ((((t.step (↑w.heap.words.length:Int)).step (↑w.heap.pages.length:Int)).step 12).next 10).toNat default))) (Fa (by(simp only[List.length_map,List.length_cons,List.length_nil];omega):0≤t.next (↑w.heap.words.length:Int)∧(t.next (↑w.heap.words.length:Int)).toNat<(List.map wdv w.heap.words).length) (Fa (by(simp only[List.length_map,List.length_cons,List.length_nil];omega):(t.next (↑w.heap.words.length:Int)).toNat<(List.map wdv w.heap.words).length) (Fa (by simp[spV,spQ,spPg,spI,spP,spT3,spT2,spList,List.map_take,List.map_drop,List.map_set,List.map_append,wdv,idv]:(List.map wdv w.heap.words).set (t.next (↑w.heap.words.length:Int)).toNat [du64 ([0,1,5,21,4096,4097,4112,16386,1099511627776,61].getD ((((t.step (↑w.heap.words.length:Int)).step (↑w.heap.pages.length:Int)).step 12).next 10).toNat default)]=List.map wdv (w.heap.words.set (t.next (↑w.heap.words.length:Int)).toNat ([0,1,5,21,4096,4097,4112,16386,1099511627776,61].getD ((((t.step (↑w.heap.words.length:Int)).step (↑w.heap.pages.length:Int)).step 12).next 10).toNat default))) Fz))))))))))))))))))))
theorem Zmz(hd:(spT2 w t).next 12=2):LentSpec Tryz.prog 40 [w.av,.pt 0 0 0] [t.b] (w.spoil t).av [(w.spoilT t).b]:=by
 have e7:w.spoil t=⟨⟨w.heap.conf,w.heap.words.set (spI w t) (spV w t 2),w.heap.pages,w.heap.space,w.heap.bump⟩,w.strong,w.weak⟩:=by simp[WorldM.spoil,spH,hd]
 have e8:w.spoilT t=(spT3 w t).step 64:=by simp[WorldM.spoilT,spN,hd]
 have s1:=Z0u (t:=t) (w.heap.words.length:Int)
 have s2:(t.step (w.heap.words.length:Int)).at'≤(spT2 w t).at'∧(spT2 w t).at'≤(t.step (w.heap.words.length:Int)).at'+1∧(spT2 w t).l=(t.step (w.heap.words.length:Int)).l:=Z0u _
 have s3:(spT2 w t).at'≤(spT3 w t).at'∧(spT3 w t).at'≤(spT2 w t).at'+1∧(spT3 w t).l=(spT2 w t).l:=Z0u _
 have k1:=Z0I ht s1.2.2 (by omega) (by omega)
 have k2:TOk (spT2 w t):=Z0I k1 s2.2.2 (by omega) (by omega)
 have k3:TOk (spT3 w t):=Z0I k2 s3.2.2 (by omega) (by omega)
 have a1:=hm.wl
 have a2:=hm.pl
 have a3:=hm.cw
 have hw:=hm.words
 have n1:=Z0d t (n:=(w.heap.words.length:Int)) (by omega)
 have n2:=Z0d (t.step (w.heap.words.length:Int)) (n:=(w.heap.pages.length:Int)) (by omega)
 have n3:=Z0d (spT3 w t) (n:=64) (by omega)
 rw[e7,e8]
 unfold spT3 spT2 at *
 exact lF Tryz.func40 [] (Fh 51 [.el (wdv (w.heap.words.getD (t.next (↑w.heap.words.length:Int)).toNat default))] (Fh 10057 [.els (List.map wdv (w.heap.words.set (t.next (↑w.heap.words.length:Int)).toNat (bits BinOp.xor IntKind.u64 (w.heap.words.getD (t.next (↑w.heap.words.length:Int)).toNat default) (IntKind.u64.wrap ((1:Int)*2^min ((((t.step (↑w.heap.words.length:Int)).step (↑w.heap.pages.length:Int)).step 12).next 64).toNat 64)))))] (Fs 11 (List.map wdv []) (Fa (by(simp[spV,spQ,spPg,spI,spP,spT3,spT2,spList, *];omega):(List.map wdv []).length+(List.map wdv w.heap.words).length≤2^30) (Fs 14 (List.map wdv w.heap.words) (Fs 15 (List.map Page.dv []) (Fa (by(simp[spV,spQ,spPg,spI,spP,spT3,spT2,spList, *];omega):(List.map Page.dv []).length+(List.map Page.dv w.heap.pages).length≤2^30) (Fs 18 (List.map Page.dv w.heap.pages) (Fl 24 wdv w.heap.words (Fp 25 (@Z0f t ((↑w.heap.words.length:Int)) ‹_› (by omega) (by omega)) (Fl 29 Page.dv w.heap.pages (Fp 30 (@Z0f (t.step (↑w.heap.words.length:Int)) ((↑w.heap.pages.length:Int)) ‹_› (by omega) (by omega)) (Fp 32 (@Z0O ((t.step (↑w.heap.words.length:Int)).step (↑w.heap.pages.length:Int)) (2) ‹_› ‹_›) (Fa (by(simp only[List.length_map];omega):0≤t.next (↑w.heap.words.length:Int)∧(t.next (↑w.heap.words.length:Int)).toNat<(List.map wdv w.heap.words).length) (Fa (by exact Z1c (by omega):(List.map wdv w.heap.words)[(t.next (↑w.heap.words.length:Int)).toNat]? = some (wdv (w.heap.words.getD (t.next (↑w.heap.words.length:Int)).toNat default))) (Fp 53 (@Z0f (((t.step (↑w.heap.words.length:Int)).step (↑w.heap.pages.length:Int)).step 12) (64) ‹_› (by omega) (by omega)) (Fv 54 ((((t.step (↑w.heap.words.length:Int)).step (↑w.heap.pages.length:Int)).step 12).next 64) (Fo (0≤(((t.step (↑w.heap.words.length:Int)).step (↑w.heap.pages.length:Int)).step 12).next 64) (Fa (by(simp only[List.length_map];omega):0≤t.next (↑w.heap.words.length:Int)∧(t.next (↑w.heap.words.length:Int)).toNat<(List.map wdv w.heap.words).length) (Fa (by(simp only[List.length_map];omega):(t.next (↑w.heap.words.length:Int)).toNat<(List.map wdv w.heap.words).length) (Fa (by rw[List.map_set];rfl:(List.map wdv w.heap.words).set (t.next (↑w.heap.words.length:Int)).toNat [du64 (bits BinOp.xor IntKind.u64 (w.heap.words.getD (t.next (↑w.heap.words.length:Int)).toNat default) (IntKind.u64.wrap ((1:Int)*2^min ((((t.step (↑w.heap.words.length:Int)).step (↑w.heap.pages.length:Int)).step 12).next 64).toNat IntKind.u64.bits)))]=List.map wdv (w.heap.words.set (t.next (↑w.heap.words.length:Int)).toNat (bits BinOp.xor IntKind.u64 (w.heap.words.getD (t.next (↑w.heap.words.length:Int)).toNat default) (IntKind.u64.wrap ((1:Int)*2^min ((((t.step (↑w.heap.words.length:Int)).step (↑w.heap.pages.length:Int)).step 12).next 64).toNat 64))))) Fz)))))))))))))))))))))
theorem ZmW(hd:(spT2 w t).next 12=3):LentSpec Tryz.prog 40 [w.av,.pt 0 0 0] [t.b] (w.spoil t).av [(w.spoilT t).b]:=by
 have e7:w.spoil t=⟨⟨w.heap.conf,w.heap.words,w.heap.pages.set (spP w t) (spQ w t 3),w.heap.space,w.heap.bump⟩,w.strong,w.weak⟩:=by simp[WorldM.spoil,spH,hd]
 have e8:w.spoilT t=(spT3 w t).step 5:=by simp[WorldM.spoilT,spN,hd]
 have s1:=Z0u (t:=t) (w.heap.words.length:Int)
 have s2:(t.step (w.heap.words.length:Int)).at'≤(spT2 w t).at'∧(spT2 w t).at'≤(t.step (w.heap.words.length:Int)).at'+1∧(spT2 w t).l=(t.step (w.heap.words.length:Int)).l:=Z0u _
 have s3:(spT2 w t).at'≤(spT3 w t).at'∧(spT3 w t).at'≤(spT2 w t).at'+1∧(spT3 w t).l=(spT2 w t).l:=Z0u _
 have k1:=Z0I ht s1.2.2 (by omega) (by omega)
 have k2:TOk (spT2 w t):=Z0I k1 s2.2.2 (by omega) (by omega)
 have k3:TOk (spT3 w t):=Z0I k2 s3.2.2 (by omega) (by omega)
 have a1:=hm.wl
 have a2:=hm.pl
 have a3:=hm.cw
 have hw:=hm.words
 have n1:=Z0d t (n:=(w.heap.words.length:Int)) (by omega)
 have n2:=Z0d (t.step (w.heap.words.length:Int)) (n:=(w.heap.pages.length:Int)) (by omega)
 have n3:=Z0d (spT3 w t) (n:=5) (by omega)
 rw[e7,e8]
 unfold spT3 spT2 at *
 exact lF Tryz.func40 [] (Fs 11 (List.map wdv []) (Fa (by(simp[spV,spQ,spPg,spI,spP,spT3,spT2,spList, *];omega):(List.map wdv []).length+(List.map wdv w.heap.words).length≤2^30) (Fs 14 (List.map wdv w.heap.words) (Fs 15 (List.map Page.dv []) (Fa (by(simp[spV,spQ,spPg,spI,spP,spT3,spT2,spList, *];omega):(List.map Page.dv []).length+(List.map Page.dv w.heap.pages).length≤2^30) (Fs 18 (List.map Page.dv w.heap.pages) (Fl 24 wdv w.heap.words (Fp 25 (@Z0f t ((↑w.heap.words.length:Int)) ‹_› (by omega) (by omega)) (Fl 29 Page.dv w.heap.pages (Fp 30 (@Z0f (t.step (↑w.heap.words.length:Int)) ((↑w.heap.pages.length:Int)) ‹_› (by omega) (by omega)) (Fp 32 (@Z0O ((t.step (↑w.heap.words.length:Int)).step (↑w.heap.pages.length:Int)) (3) ‹_› ‹_›) (Fp 64 (@Z0f (((t.step (↑w.heap.words.length:Int)).step (↑w.heap.pages.length:Int)).step 12) (5) ‹_› (by omega) (by omega)) (Fa (by(simp only[List.length_map];omega):0≤(t.step (↑w.heap.words.length:Int)).next (↑w.heap.pages.length:Int)∧((t.step (↑w.heap.words.length:Int)).next (↑w.heap.pages.length:Int)).toNat<(List.map Page.dv w.heap.pages).length) (Fa (by exact Z1c (by omega):(List.map Page.dv w.heap.pages)[((t.step (↑w.heap.words.length:Int)).next (↑w.heap.pages.length:Int)).toNat]? = some (w.heap.pages.getD ((t.step (↑w.heap.words.length:Int)).next (↑w.heap.pages.length:Int)).toNat default).dv) (FS 10066 Page.dv w.heap.pages (((t.step (↑w.heap.words.length:Int)).next (↑w.heap.pages.length:Int)).toNat) (Page.mk ((((t.step (↑w.heap.words.length:Int)).step (↑w.heap.pages.length:Int)).step 12).next 5) (w.heap.pages.getD ((t.step (↑w.heap.words.length:Int)).next (↑w.heap.pages.length:Int)).toNat default).space (w.heap.pages.getD ((t.step (↑w.heap.words.length:Int)).next (↑w.heap.pages.length:Int)).toNat default).used (w.heap.pages.getD ((t.step (↑w.heap.words.length:Int)).next (↑w.heap.pages.length:Int)).toNat default).pins) ((w.heap.pages.getD ((t.step (↑w.heap.words.length:Int)).next (↑w.heap.pages.length:Int)).toNat default).dv) Fz)))))))))))))))
theorem Zmt(hd:(spT2 w t).next 12=4):LentSpec Tryz.prog 40 [w.av,.pt 0 0 0] [t.b] (w.spoil t).av [(w.spoilT t).b]:=by
 have e7:w.spoil t=⟨⟨w.heap.conf,w.heap.words,w.heap.pages.set (spP w t) (spQ w t 4),w.heap.space,w.heap.bump⟩,w.strong,w.weak⟩:=by simp[WorldM.spoil,spH,hd]
 have e8:w.spoilT t=(spT3 w t).step 3:=by simp[WorldM.spoilT,spN,hd]
 have s1:=Z0u (t:=t) (w.heap.words.length:Int)
 have s2:(t.step (w.heap.words.length:Int)).at'≤(spT2 w t).at'∧(spT2 w t).at'≤(t.step (w.heap.words.length:Int)).at'+1∧(spT2 w t).l=(t.step (w.heap.words.length:Int)).l:=Z0u _
 have s3:(spT2 w t).at'≤(spT3 w t).at'∧(spT3 w t).at'≤(spT2 w t).at'+1∧(spT3 w t).l=(spT2 w t).l:=Z0u _
 have k1:=Z0I ht s1.2.2 (by omega) (by omega)
 have k2:TOk (spT2 w t):=Z0I k1 s2.2.2 (by omega) (by omega)
 have k3:TOk (spT3 w t):=Z0I k2 s3.2.2 (by omega) (by omega)
 have a1:=hm.wl
 have a2:=hm.pl
 have a3:=hm.cw
 have hw:=hm.words
 have n1:=Z0d t (n:=(w.heap.words.length:Int)) (by omega)
 have n2:=Z0d (t.step (w.heap.words.length:Int)) (n:=(w.heap.pages.length:Int)) (by omega)
 have n3:=Z0d (spT3 w t) (n:=3) (by omega)
 rw[e7,e8]
 unfold spT3 spT2 at *
 exact lF Tryz.func40 [] (Fs 11 (List.map wdv []) (Fa (by(simp[spV,spQ,spPg,spI,spP,spT3,spT2,spList, *];omega):(List.map wdv []).length+(List.map wdv w.heap.words).length≤2^30) (Fs 14 (List.map wdv w.heap.words) (Fs 15 (List.map Page.dv []) (Fa (by(simp[spV,spQ,spPg,spI,spP,spT3,spT2,spList, *];omega):(List.map Page.dv []).length+(List.map Page.dv w.heap.pages).length≤2^30) (Fs 18 (List.map Page.dv w.heap.pages) (Fl 24 wdv w.heap.words (Fp 25 (@Z0f t ((↑w.heap.words.length:Int)) ‹_› (by omega) (by omega)) (Fl 29 Page.dv w.heap.pages (Fp 30 (@Z0f (t.step (↑w.heap.words.length:Int)) ((↑w.heap.pages.length:Int)) ‹_› (by omega) (by omega)) (Fp 32 (@Z0O ((t.step (↑w.heap.words.length:Int)).step (↑w.heap.pages.length:Int)) (4) ‹_› ‹_›) (Fp 73 (@Z0f (((t.step (↑w.heap.words.length:Int)).step (↑w.heap.pages.length:Int)).step 12) (3) ‹_› (by omega) (by omega)) (Fa (by(simp only[List.length_map];omega):0≤(t.step (↑w.heap.words.length:Int)).next (↑w.heap.pages.length:Int)∧((t.step (↑w.heap.words.length:Int)).next (↑w.heap.pages.length:Int)).toNat<(List.map Page.dv w.heap.pages).length) (Fa (by exact Z1c (by omega):(List.map Page.dv w.heap.pages)[((t.step (↑w.heap.words.length:Int)).next (↑w.heap.pages.length:Int)).toNat]? = some (w.heap.pages.getD ((t.step (↑w.heap.words.length:Int)).next (↑w.heap.pages.length:Int)).toNat default).dv) (FS 10075 Page.dv w.heap.pages (((t.step (↑w.heap.words.length:Int)).next (↑w.heap.pages.length:Int)).toNat) (Page.mk (w.heap.pages.getD ((t.step (↑w.heap.words.length:Int)).next (↑w.heap.pages.length:Int)).toNat default).kind ((((t.step (↑w.heap.words.length:Int)).step (↑w.heap.pages.length:Int)).step 12).next 3) (w.heap.pages.getD ((t.step (↑w.heap.words.length:Int)).next (↑w.heap.pages.length:Int)).toNat default).used (w.heap.pages.getD ((t.step (↑w.heap.words.length:Int)).next (↑w.heap.pages.length:Int)).toNat default).pins) ((w.heap.pages.getD ((t.step (↑w.heap.words.length:Int)).next (↑w.heap.pages.length:Int)).toNat default).dv) Fz)))))))))))))))
theorem ZmE(hd:(spT2 w t).next 12=5):LentSpec Tryz.prog 40 [w.av,.pt 0 0 0] [t.b] (w.spoil t).av [(w.spoilT t).b]:=by
 have e7:w.spoil t=⟨⟨w.heap.conf,w.heap.words,w.heap.pages.set (spP w t) (spQ w t 5),w.heap.space,w.heap.bump⟩,w.strong,w.weak⟩:=by simp[WorldM.spoil,spH,hd]
 have e8:w.spoilT t=(spT3 w t).step 9:=by simp[WorldM.spoilT,spN,hd]
 have s1:=Z0u (t:=t) (w.heap.words.length:Int)
 have s2:(t.step (w.heap.words.length:Int)).at'≤(spT2 w t).at'∧(spT2 w t).at'≤(t.step (w.heap.words.length:Int)).at'+1∧(spT2 w t).l=(t.step (w.heap.words.length:Int)).l:=Z0u _
 have s3:(spT2 w t).at'≤(spT3 w t).at'∧(spT3 w t).at'≤(spT2 w t).at'+1∧(spT3 w t).l=(spT2 w t).l:=Z0u _
 have k1:=Z0I ht s1.2.2 (by omega) (by omega)
 have k2:TOk (spT2 w t):=Z0I k1 s2.2.2 (by omega) (by omega)
 have k3:TOk (spT3 w t):=Z0I k2 s3.2.2 (by omega) (by omega)
 have a1:=hm.wl
 have a2:=hm.pl
 have a3:=hm.cw
 have hw:=hm.words
 have n1:=Z0d t (n:=(w.heap.words.length:Int)) (by omega)
 have n2:=Z0d (t.step (w.heap.words.length:Int)) (n:=(w.heap.pages.length:Int)) (by omega)
 have n3:=Z0d (spT3 w t) (n:=9) (by omega)
 have pu:=hus (spP w t)
 unfold spP at pu
 rw[e7,e8]
 unfold spT3 spT2 at *
 exact lF Tryz.func40 [] (Fh 86 [.el (w.heap.pages.getD ((t.step (↑w.heap.words.length:Int)).next (↑w.heap.pages.length:Int)).toNat default).dv] (Fs 11 (List.map wdv []) (Fa (by(simp[spV,spQ,spPg,spI,spP,spT3,spT2,spList, *];omega):(List.map wdv []).length+(List.map wdv w.heap.words).length≤2^30) (Fs 14 (List.map wdv w.heap.words) (Fs 15 (List.map Page.dv []) (Fa (by(simp[spV,spQ,spPg,spI,spP,spT3,spT2,spList, *];omega):(List.map Page.dv []).length+(List.map Page.dv w.heap.pages).length≤2^30) (Fs 18 (List.map Page.dv w.heap.pages) (Fl 24 wdv w.heap.words (Fp 25 (@Z0f t ((↑w.heap.words.length:Int)) ‹_› (by omega) (by omega)) (Fl 29 Page.dv w.heap.pages (Fp 30 (@Z0f (t.step (↑w.heap.words.length:Int)) ((↑w.heap.pages.length:Int)) ‹_› (by omega) (by omega)) (Fp 32 (@Z0O ((t.step (↑w.heap.words.length:Int)).step (↑w.heap.pages.length:Int)) (5) ‹_› ‹_›) (Fa (by(simp only[List.length_map];omega):0≤(t.step (↑w.heap.words.length:Int)).next (↑w.heap.pages.length:Int)∧((t.step (↑w.heap.words.length:Int)).next (↑w.heap.pages.length:Int)).toNat<(List.map Page.dv w.heap.pages).length) (Fa (by exact Z1c (by omega):(List.map Page.dv w.heap.pages)[((t.step (↑w.heap.words.length:Int)).next (↑w.heap.pages.length:Int)).toNat]? = some (w.heap.pages.getD ((t.step (↑w.heap.words.length:Int)).next (↑w.heap.pages.length:Int)).toNat default).dv) (Fp 88 (@Z0f (((t.step (↑w.heap.words.length:Int)).step (↑w.heap.pages.length:Int)).step 12) (9) ‹_› (by omega) (by omega)) (Fi 89 ((w.heap.pages.getD ((t.step (↑w.heap.words.length:Int)).next (↑w.heap.pages.length:Int)).toNat default).used+(((t.step (↑w.heap.words.length:Int)).step (↑w.heap.pages.length:Int)).step 12).next 9) (Fi 90 ((w.heap.pages.getD ((t.step (↑w.heap.words.length:Int)).next (↑w.heap.pages.length:Int)).toNat default).used+(((t.step (↑w.heap.words.length:Int)).step (↑w.heap.pages.length:Int)).step 12).next (9:Int)-4) (Fa (by(simp only[List.length_map];omega):0≤(t.step (↑w.heap.words.length:Int)).next (↑w.heap.pages.length:Int)∧((t.step (↑w.heap.words.length:Int)).next (↑w.heap.pages.length:Int)).toNat<(List.map Page.dv w.heap.pages).length) (Fa (by exact Z1c (by omega):(List.map Page.dv w.heap.pages)[((t.step (↑w.heap.words.length:Int)).next (↑w.heap.pages.length:Int)).toNat]? = some (w.heap.pages.getD ((t.step (↑w.heap.words.length:Int)).next (↑w.heap.pages.length:Int)).toNat default).dv) (FS 10092 Page.dv w.heap.pages (((t.step (↑w.heap.words.length:Int)).next (↑w.heap.pages.length:Int)).toNat) (Page.mk (w.heap.pages.getD ((t.step (↑w.heap.words.length:Int)).next (↑w.heap.pages.length:Int)).toNat default).kind (w.heap.pages.getD ((t.step (↑w.heap.words.length:Int)).next (↑w.heap.pages.length:Int)).toNat default).space ((w.heap.pages.getD ((t.step (↑w.heap.words.length:Int)).next (↑w.heap.pages.length:Int)).toNat default).used+(((t.step (↑w.heap.words.length:Int)).step (↑w.heap.pages.length:Int)).step 12).next (9:Int)-4) (w.heap.pages.getD ((t.step (↑w.heap.words.length:Int)).next (↑w.heap.pages.length:Int)).toNat default).pins) ((w.heap.pages.getD ((t.step (↑w.heap.words.length:Int)).next (↑w.heap.pages.length:Int)).toNat default).dv) Fz))))))))))))))))))))
theorem Zm8(hd:(spT2 w t).next 12=6):LentSpec Tryz.prog 40 [w.av,.pt 0 0 0] [t.b] (w.spoil t).av [(w.spoilT t).b]:=by
 have e7:w.spoil t=⟨⟨w.heap.conf,w.heap.words,w.heap.pages.set (spP w t) (spQ w t 6),w.heap.space,w.heap.bump⟩,w.strong,w.weak⟩:=by simp[WorldM.spoil,spH,hd]
 have e8:w.spoilT t=(spT3 w t).step 3:=by simp[WorldM.spoilT,spN,hd]
 have s1:=Z0u (t:=t) (w.heap.words.length:Int)
 have s2:(t.step (w.heap.words.length:Int)).at'≤(spT2 w t).at'∧(spT2 w t).at'≤(t.step (w.heap.words.length:Int)).at'+1∧(spT2 w t).l=(t.step (w.heap.words.length:Int)).l:=Z0u _
 have s3:(spT2 w t).at'≤(spT3 w t).at'∧(spT3 w t).at'≤(spT2 w t).at'+1∧(spT3 w t).l=(spT2 w t).l:=Z0u _
 have k1:=Z0I ht s1.2.2 (by omega) (by omega)
 have k2:TOk (spT2 w t):=Z0I k1 s2.2.2 (by omega) (by omega)
 have k3:TOk (spT3 w t):=Z0I k2 s3.2.2 (by omega) (by omega)
 have a1:=hm.wl
 have a2:=hm.pl
 have a3:=hm.cw
 have hw:=hm.words
 have n1:=Z0d t (n:=(w.heap.words.length:Int)) (by omega)
 have n2:=Z0d (t.step (w.heap.words.length:Int)) (n:=(w.heap.pages.length:Int)) (by omega)
 have n3:=Z0d (spT3 w t) (n:=3) (by omega)
 rw[e7,e8]
 unfold spT3 spT2 at *
 exact lF Tryz.func40 [] (Fs 11 (List.map wdv []) (Fa (by(simp[spV,spQ,spPg,spI,spP,spT3,spT2,spList, *];omega):(List.map wdv []).length+(List.map wdv w.heap.words).length≤2^30) (Fs 14 (List.map wdv w.heap.words) (Fs 15 (List.map Page.dv []) (Fa (by(simp[spV,spQ,spPg,spI,spP,spT3,spT2,spList, *];omega):(List.map Page.dv []).length+(List.map Page.dv w.heap.pages).length≤2^30) (Fs 18 (List.map Page.dv w.heap.pages) (Fl 24 wdv w.heap.words (Fp 25 (@Z0f t ((↑w.heap.words.length:Int)) ‹_› (by omega) (by omega)) (Fl 29 Page.dv w.heap.pages (Fp 30 (@Z0f (t.step (↑w.heap.words.length:Int)) ((↑w.heap.pages.length:Int)) ‹_› (by omega) (by omega)) (Fp 32 (@Z0O ((t.step (↑w.heap.words.length:Int)).step (↑w.heap.pages.length:Int)) (6) ‹_› ‹_›) (Fp 99 (@Z0f (((t.step (↑w.heap.words.length:Int)).step (↑w.heap.pages.length:Int)).step 12) (3) ‹_› (by omega) (by omega)) (Fi 100 ((((t.step (↑w.heap.words.length:Int)).step (↑w.heap.pages.length:Int)).step 12).next (3:Int)-1) (Fa (by(simp only[List.length_map];omega):0≤(t.step (↑w.heap.words.length:Int)).next (↑w.heap.pages.length:Int)∧((t.step (↑w.heap.words.length:Int)).next (↑w.heap.pages.length:Int)).toNat<(List.map Page.dv w.heap.pages).length) (Fa (by exact Z1c (by omega):(List.map Page.dv w.heap.pages)[((t.step (↑w.heap.words.length:Int)).next (↑w.heap.pages.length:Int)).toNat]? = some (w.heap.pages.getD ((t.step (↑w.heap.words.length:Int)).next (↑w.heap.pages.length:Int)).toNat default).dv) (FS 10102 Page.dv w.heap.pages (((t.step (↑w.heap.words.length:Int)).next (↑w.heap.pages.length:Int)).toNat) (Page.mk (w.heap.pages.getD ((t.step (↑w.heap.words.length:Int)).next (↑w.heap.pages.length:Int)).toNat default).kind (w.heap.pages.getD ((t.step (↑w.heap.words.length:Int)).next (↑w.heap.pages.length:Int)).toNat default).space (w.heap.pages.getD ((t.step (↑w.heap.words.length:Int)).next (↑w.heap.pages.length:Int)).toNat default).used ((((t.step (↑w.heap.words.length:Int)).step (↑w.heap.pages.length:Int)).step 12).next (3:Int)-1)) ((w.heap.pages.getD ((t.step (↑w.heap.words.length:Int)).next (↑w.heap.pages.length:Int)).toNat default).dv) Fz))))))))))))))))
end
def pinL(w:WorldM)(tp:Tape)(i:Nat):Tg:=⟨tm 156 [(2,.pt 8002 0 0),(4,.pt 8004 0 0),(5,.pt 16005 0 0),(8,int i)],[(0,tp.b),(16005,.box 28 [int w.heap.conf.pw,int w.heap.conf.pg,.ow 24014,.ow 24018,int w.heap.space,int w.heap.bump]),(24018,.arr 134 4 ((preM pinQ w.heap.pages i).map Page.dv)),(24014,.arr 56 1 (w.heap.words.map wdv)),(8004,.box 30 [int 0,int 0,.d (.sl 0 []),.d (.sl 0 []),int 0,int 0,.d (.sl 0 []),.d (.sl 0 [])]),(8002,.box 30 w.cells)],60⟩
theorem Zj5(w:WorldM)(tp:Tape)(i:Nat)(hl:w.heap.pages.length≤64)(hi:i<w.heap.pages.length):CSpec Tryz.prog (rndF Tryz.f40 1) (pinL w tp i).st .nrm (pinL w tp (i+1)).st:=by
 have ha:=Z73 pinQ w.heap.pages (Nat.le_refl i) default
 have hn:=Z3l pinQ w.heap.pages i
 by_cases hc:(w.heap.pages.getD i default).kind=1
 ·have hq:=Z63 pinQ w.heap.pages hi default
  rw[show pinQ (w.heap.pages.getD i default)=⟨(w.heap.pages.getD i default).kind,(w.heap.pages.getD i default).space,(w.heap.pages.getD i default).used,1⟩ by rw[pinQ,if_pos hc],← ha]at hq
  rw[← ha]at hc
  rcases bb (((preM pinQ w.heap.pages i).getD (↑i:Int).toNat default).kind==1)with hc0 | hc0<;>have hc0p:=hc0<;>simp only[bs]at hc0p
  ·exact sF [] [false,false,false,false,false,false,true] (Fl 137 Page.dv (preM pinQ w.heap.pages i) (Ftb 138 (decide ((↑i:Int)<(↑(preM pinQ w.heap.pages i).length:Int))) (Fm 146 Page.dv (preM pinQ w.heap.pages i) (↑i) ((↑i:Int).toNat) (Ft 147 hc0 (Fm0 Page.dv (preM pinQ w.heap.pages i) (↑i) ((↑i:Int).toNat) (FS 10152 Page.dv (preM pinQ w.heap.pages i) ((↑i:Int).toNat) (Page.mk ((preM pinQ w.heap.pages i).getD (↑i:Int).toNat default).kind ((preM pinQ w.heap.pages i).getD (↑i:Int).toNat default).space ((preM pinQ w.heap.pages i).getD (↑i:Int).toNat default).used 1) (((preM pinQ w.heap.pages i).getD (↑i:Int).toNat default).dv) (Fx 140 i (Fr (134:Int) (Fa (by refine congrArg _ ?_;exact hq:List.map Page.dv ((preM pinQ w.heap.pages i).set (↑i:Int).toNat (Page.mk ((preM pinQ w.heap.pages i).getD (↑i:Int).toNat default).kind ((preM pinQ w.heap.pages i).getD (↑i:Int).toNat default).space ((preM pinQ w.heap.pages i).getD (↑i:Int).toNat default).used 1))=List.map Page.dv (preM pinQ w.heap.pages (i+1))) Fz)))))))))
  ·contradiction
 ·have hq:=Z7f pinQ w.heap.pages hi default (by rw[pinQ,if_neg hc])
  rw[← ha]at hc
  rcases bb (((preM pinQ w.heap.pages i).getD (↑i:Int).toNat default).kind==1)with hc0 | hc0<;>have hc0p:=hc0<;>simp only[bs]at hc0p
  ·contradiction
  ·exact sF [] [false,false,false,false,false,false,true] (Fl 137 Page.dv (preM pinQ w.heap.pages i) (Ftb 138 (decide ((↑i:Int)<(↑(preM pinQ w.heap.pages i).length:Int))) (Fm 146 Page.dv (preM pinQ w.heap.pages i) (↑i) ((↑i:Int).toNat) (Ff 147 hc0 (Fx 140 i (Fr (134:Int) (Fa (by refine congrArg _ ?_;exact hq:List.map Page.dv (preM pinQ w.heap.pages i)=List.map Page.dv (preM pinQ w.heap.pages (i+1))) Fz)))))))
theorem Zmy(w:WorldM)(tp:Tape):CSpec Tryz.prog (rndF Tryz.f40 1) (pinL w tp w.heap.pages.length).st (.ext 1) (Tg.st ⟨tm 156 [(2,.pt 8002 0 0),(4,.pt 8004 0 0),(5,.pt 16005 0 0)],[(0,tp.b),(16005,.box 28 [int w.heap.conf.pw,int w.heap.conf.pg,.ow 24014,.ow 24018,int w.heap.space,int w.heap.bump]),(24018,.arr 134 4 ((w.heap.pages.map pinQ).map Page.dv)),(24014,.arr 56 1 (w.heap.words.map wdv)),(8004,.box 30 [int 0,int 0,.d (.sl 0 []),.d (.sl 0 []),int 0,int 0,.d (.sl 0 []),.d (.sl 0 [])]),(8002,.box 30 w.cells)],60⟩):=by
 have hq:=Z75 pinQ w.heap.pages
 have hn:=Z3l pinQ w.heap.pages w.heap.pages.length
 exact sF [] [false,false,false,false,false,true] (Fl 137 Page.dv (preM pinQ w.heap.pages w.heap.pages.length) (Ffb 138 (decide ((↑w.heap.pages.length:Int)<(↑(preM pinQ w.heap.pages w.heap.pages.length).length:Int))) (Fr (134:Int) (Fa (by refine congrArg _ ?_;assumption:List.map Page.dv (preM pinQ w.heap.pages w.heap.pages.length)=List.map Page.dv (List.map pinQ w.heap.pages)) Fz))))
theorem ZlU(w:WorldM)(tp:Tape)(hl:w.heap.pages.length≤64):CSpec Tryz.prog (blkF Tryz.f40 1) (Tg.st ⟨tm 156 [(2,.pt 8002 0 0),(4,.pt 8004 0 0),(5,.pt 16005 0 0),(8,int 0)],[(0,tp.b),(16005,.box 28 [int w.heap.conf.pw,int w.heap.conf.pg,.ow 24014,.ow 24018,int w.heap.space,int w.heap.bump]),(24018,.arr 134 4 (w.heap.pages.map Page.dv)),(24014,.arr 56 1 (w.heap.words.map wdv)),(8004,.box 30 [int 0,int 0,.d (.sl 0 []),.d (.sl 0 []),int 0,int 0,.d (.sl 0 []),.d (.sl 0 [])]),(8002,.box 30 w.cells)],60⟩) .nrm (Tg.st ⟨tm 156 [(2,.pt 8002 0 0),(4,.pt 8004 0 0),(5,.pt 16005 0 0)],[(0,tp.b),(16005,.box 28 [int w.heap.conf.pw,int w.heap.conf.pg,.ow 24014,.ow 24018,int w.heap.space,int w.heap.bump]),(24018,.arr 134 4 ((w.heap.pages.map pinQ).map Page.dv)),(24014,.arr 56 1 (w.heap.words.map wdv)),(8004,.box 30 [int 0,int 0,.d (.sl 0 []),.d (.sl 0 []),int 0,int 0,.d (.sl 0 []),.d (.sl 0 [])]),(8002,.box 30 w.cells)],60⟩):=by
 have:=Z0b (S:=fun k=>(pinL w tp k).st) w.heap.pages.length (by kernel_rfl) (fun k hk=>Zj5 w tp k hl hk) (Zmy w tp)
 simp only[pinL,Zb9]at this
 exact this
section
variable (w:WorldM) (t:Tape) (hm:SOk w) (ht:TOk t) (ha:t.at'≤900000) (hus:∀ j,j<w.heap.pages.length→-1099511627776≤(w.heap.pages.getD j default).used∧(w.heap.pages.getD j default).used≤1099511627776)
include hm ht ha hus
theorem Zmo(hd:(spT2 w t).next 12=7):LentSpec Tryz.prog 40 [w.av,.pt 0 0 0] [t.b] (w.spoil t).av [(w.spoilT t).b]:=by
 have e7:w.spoil t=⟨⟨w.heap.conf,w.heap.words,w.heap.pages,(spT3 w t).next 3,w.heap.bump⟩,w.strong,w.weak⟩:=by simp[WorldM.spoil,spH,hd]
 have e8:w.spoilT t=(spT3 w t).step 3:=by simp[WorldM.spoilT,spN,hd]
 have s1:=Z0u (t:=t) (w.heap.words.length:Int)
 have s2:(t.step (w.heap.words.length:Int)).at'≤(spT2 w t).at'∧(spT2 w t).at'≤(t.step (w.heap.words.length:Int)).at'+1∧(spT2 w t).l=(t.step (w.heap.words.length:Int)).l:=Z0u _
 have s3:(spT2 w t).at'≤(spT3 w t).at'∧(spT3 w t).at'≤(spT2 w t).at'+1∧(spT3 w t).l=(spT2 w t).l:=Z0u _
 have k1:=Z0I ht s1.2.2 (by omega) (by omega)
 have k2:TOk (spT2 w t):=Z0I k1 s2.2.2 (by omega) (by omega)
 have k3:TOk (spT3 w t):=Z0I k2 s3.2.2 (by omega) (by omega)
 have a1:=hm.wl
 have a2:=hm.pl
 have a3:=hm.cw
 have hw:=hm.words
 have n1:=Z0d t (n:=(w.heap.words.length:Int)) (by omega)
 have n2:=Z0d (t.step (w.heap.words.length:Int)) (n:=(w.heap.pages.length:Int)) (by omega)
 have n3:=Z0d (spT3 w t) (n:=3) (by omega)
 rw[e7,e8]
 unfold spT3 spT2 at *
 exact lF Tryz.func40 [] (Fs 11 (List.map wdv []) (Fa (by(simp[spV,spQ,spPg,spI,spP,spT3,spT2,spList, *];omega):(List.map wdv []).length+(List.map wdv w.heap.words).length≤2^30) (Fs 14 (List.map wdv w.heap.words) (Fs 15 (List.map Page.dv []) (Fa (by(simp[spV,spQ,spPg,spI,spP,spT3,spT2,spList, *];omega):(List.map Page.dv []).length+(List.map Page.dv w.heap.pages).length≤2^30) (Fs 18 (List.map Page.dv w.heap.pages) (Fl 24 wdv w.heap.words (Fp 25 (@Z0f t ((↑w.heap.words.length:Int)) ‹_› (by omega) (by omega)) (Fl 29 Page.dv w.heap.pages (Fp 30 (@Z0f (t.step (↑w.heap.words.length:Int)) ((↑w.heap.pages.length:Int)) ‹_› (by omega) (by omega)) (Fp 32 (@Z0O ((t.step (↑w.heap.words.length:Int)).step (↑w.heap.pages.length:Int)) (7) ‹_› ‹_›) (Fp 106 (@Z0f (((t.step (↑w.heap.words.length:Int)).step (↑w.heap.pages.length:Int)).step 12) (3) ‹_› (by omega) (by omega)) Fz))))))))))))
theorem Zmc(hd:(spT2 w t).next 12=8):LentSpec Tryz.prog 40 [w.av,.pt 0 0 0] [t.b] (w.spoil t).av [(w.spoilT t).b]:=by
 have e7:w.spoil t=⟨⟨w.heap.conf,w.heap.words,w.heap.pages,w.heap.space,(spT3 w t).next ((w.heap.pages.length+2:Nat):Int)-1⟩,w.strong,w.weak⟩:=by simp[WorldM.spoil,spH,hd]
 have e8:w.spoilT t=(spT3 w t).step ((w.heap.pages.length+2:Nat):Int):=by simp[WorldM.spoilT,spN,hd]
 have s1:=Z0u (t:=t) (w.heap.words.length:Int)
 have s2:(t.step (w.heap.words.length:Int)).at'≤(spT2 w t).at'∧(spT2 w t).at'≤(t.step (w.heap.words.length:Int)).at'+1∧(spT2 w t).l=(t.step (w.heap.words.length:Int)).l:=Z0u _
 have s3:(spT2 w t).at'≤(spT3 w t).at'∧(spT3 w t).at'≤(spT2 w t).at'+1∧(spT3 w t).l=(spT2 w t).l:=Z0u _
 have k1:=Z0I ht s1.2.2 (by omega) (by omega)
 have k2:TOk (spT2 w t):=Z0I k1 s2.2.2 (by omega) (by omega)
 have k3:TOk (spT3 w t):=Z0I k2 s3.2.2 (by omega) (by omega)
 have a1:=hm.wl
 have a2:=hm.pl
 have a3:=hm.cw
 have hw:=hm.words
 have n1:=Z0d t (n:=(w.heap.words.length:Int)) (by omega)
 have n2:=Z0d (t.step (w.heap.words.length:Int)) (n:=(w.heap.pages.length:Int)) (by omega)
 have n3:=Z0d (spT3 w t) (n:=((w.heap.pages.length+2:Nat):Int)) (by omega)
 rw[e7,e8]
 unfold spT3 spT2 at *
 exact lF Tryz.func40 [] (Fs 11 (List.map wdv []) (Fa (by(simp[spV,spQ,spPg,spI,spP,spT3,spT2,spList, *];omega):(List.map wdv []).length+(List.map wdv w.heap.words).length≤2^30) (Fs 14 (List.map wdv w.heap.words) (Fs 15 (List.map Page.dv []) (Fa (by(simp[spV,spQ,spPg,spI,spP,spT3,spT2,spList, *];omega):(List.map Page.dv []).length+(List.map Page.dv w.heap.pages).length≤2^30) (Fs 18 (List.map Page.dv w.heap.pages) (Fl 24 wdv w.heap.words (Fp 25 (@Z0f t ((↑w.heap.words.length:Int)) ‹_› (by omega) (by omega)) (Fl 29 Page.dv w.heap.pages (Fp 30 (@Z0f (t.step (↑w.heap.words.length:Int)) ((↑w.heap.pages.length:Int)) ‹_› (by omega) (by omega)) (Fp 32 (@Z0O ((t.step (↑w.heap.words.length:Int)).step (↑w.heap.pages.length:Int)) (8) ‹_› ‹_›) (Fl 113 Page.dv w.heap.pages (Fw 114 ((↑w.heap.pages.length:Int)+2) (↑(w.heap.pages.length+2):Int) (Fp 115 (@Z0f (((t.step (↑w.heap.words.length:Int)).step (↑w.heap.pages.length:Int)).step 12) ((↑(w.heap.pages.length+2):Int)) ‹_› (by omega) (by omega)) (Fi 116 ((((t.step (↑w.heap.words.length:Int)).step (↑w.heap.pages.length:Int)).step 12).next (↑(w.heap.pages.length+2):Int)-1) Fz)))))))))))))))
theorem Zn3(hd:(spT2 w t).next 12=9):LentSpec Tryz.prog 40 [w.av,.pt 0 0 0] [t.b] (w.spoil t).av [(w.spoilT t).b]:=by
 have e7:w.spoil t=⟨⟨⟨w.heap.conf.pw+4,w.heap.conf.pg⟩,w.heap.words,w.heap.pages,w.heap.space,w.heap.bump⟩,w.strong,w.weak⟩:=by simp[WorldM.spoil,spH,hd]
 have e8:w.spoilT t=spT3 w t:=by simp[WorldM.spoilT,spN,hd]
 have s1:=Z0u (t:=t) (w.heap.words.length:Int)
 have s2:(t.step (w.heap.words.length:Int)).at'≤(spT2 w t).at'∧(spT2 w t).at'≤(t.step (w.heap.words.length:Int)).at'+1∧(spT2 w t).l=(t.step (w.heap.words.length:Int)).l:=Z0u _
 have s3:(spT2 w t).at'≤(spT3 w t).at'∧(spT3 w t).at'≤(spT2 w t).at'+1∧(spT3 w t).l=(spT2 w t).l:=Z0u _
 have k1:=Z0I ht s1.2.2 (by omega) (by omega)
 have k2:TOk (spT2 w t):=Z0I k1 s2.2.2 (by omega) (by omega)
 have k3:TOk (spT3 w t):=Z0I k2 s3.2.2 (by omega) (by omega)
 have a1:=hm.wl
 have a2:=hm.pl
 have a3:=hm.cw
 have hw:=hm.words
 have n1:=Z0d t (n:=(w.heap.words.length:Int)) (by omega)
 have n2:=Z0d (t.step (w.heap.words.length:Int)) (n:=(w.heap.pages.length:Int)) (by omega)
 rw[e7,e8]
 unfold spT3 spT2 at *
 exact lF Tryz.func40 [] (Fs 11 (List.map wdv []) (Fa (by(simp[spV,spQ,spPg,spI,spP,spT3,spT2,spList, *];omega):(List.map wdv []).length+(List.map wdv w.heap.words).length≤2^30) (Fs 14 (List.map wdv w.heap.words) (Fs 15 (List.map Page.dv []) (Fa (by(simp[spV,spQ,spPg,spI,spP,spT3,spT2,spList, *];omega):(List.map Page.dv []).length+(List.map Page.dv w.heap.pages).length≤2^30) (Fs 18 (List.map Page.dv w.heap.pages) (Fl 24 wdv w.heap.words (Fp 25 (@Z0f t ((↑w.heap.words.length:Int)) ‹_› (by omega) (by omega)) (Fl 29 Page.dv w.heap.pages (Fp 30 (@Z0f (t.step (↑w.heap.words.length:Int)) ((↑w.heap.pages.length:Int)) ‹_› (by omega) (by omega)) (Fp 32 (@Z0O ((t.step (↑w.heap.words.length:Int)).step (↑w.heap.pages.length:Int)) (9) ‹_› ‹_›) (Fi 123 (w.heap.conf.pw+4) Fz))))))))))))
theorem ZlQ(hd:(spT2 w t).next 12=10):LentSpec Tryz.prog 40 [w.av,.pt 0 0 0] [t.b] (w.spoil t).av [(w.spoilT t).b]:=by
 have e7:w.spoil t=⟨⟨w.heap.conf,w.heap.words,w.heap.pages.drop 1,w.heap.space,w.heap.bump⟩,w.strong,w.weak⟩:=by simp[WorldM.spoil,spH,hd]
 have e8:w.spoilT t=spT3 w t:=by simp[WorldM.spoilT,spN,hd]
 have s1:=Z0u (t:=t) (w.heap.words.length:Int)
 have s2:(t.step (w.heap.words.length:Int)).at'≤(spT2 w t).at'∧(spT2 w t).at'≤(t.step (w.heap.words.length:Int)).at'+1∧(spT2 w t).l=(t.step (w.heap.words.length:Int)).l:=Z0u _
 have s3:(spT2 w t).at'≤(spT3 w t).at'∧(spT3 w t).at'≤(spT2 w t).at'+1∧(spT3 w t).l=(spT2 w t).l:=Z0u _
 have k1:=Z0I ht s1.2.2 (by omega) (by omega)
 have k2:TOk (spT2 w t):=Z0I k1 s2.2.2 (by omega) (by omega)
 have k3:TOk (spT3 w t):=Z0I k2 s3.2.2 (by omega) (by omega)
 have a1:=hm.wl
 have a2:=hm.pl
 have a3:=hm.cw
 have hw:=hm.words
 have n1:=Z0d t (n:=(w.heap.words.length:Int)) (by omega)
 have n2:=Z0d (t.step (w.heap.words.length:Int)) (n:=(w.heap.pages.length:Int)) (by omega)
 have hq:List.take ((↑(List.map Page.dv w.heap.pages).length:Int).toNat-Int.toNat 1) (List.drop (Int.toNat 1) (List.map Page.dv w.heap.pages))=List.map Page.dv (w.heap.pages.drop 1):=by
  show List.take _ (List.drop 1 (List.map Page.dv w.heap.pages))=_
  rw[← List.map_drop]
  exact List.take_of_length_le (by simp)
 rw[e7,e8]
 unfold spT3 spT2 at *
 exact lF Tryz.func40 [true] (Fs 11 (List.map wdv []) (Fa (by(simp[spV,spQ,spPg,spI,spP,spT3,spT2,spList, *];omega):(List.map wdv []).length+(List.map wdv w.heap.words).length≤2^30) (Fs 14 (List.map wdv w.heap.words) (Fs 15 (List.map Page.dv []) (Fa (by(simp[spV,spQ,spPg,spI,spP,spT3,spT2,spList, *];omega):(List.map Page.dv []).length+(List.map Page.dv w.heap.pages).length≤2^30) (Fs 18 (List.map Page.dv w.heap.pages) (Fl 24 wdv w.heap.words (Fp 25 (@Z0f t ((↑w.heap.words.length:Int)) ‹_› (by omega) (by omega)) (Fl 29 Page.dv w.heap.pages (Fp 30 (@Z0f (t.step (↑w.heap.words.length:Int)) ((↑w.heap.pages.length:Int)) ‹_› (by omega) (by omega)) (Fp 32 (@Z0O ((t.step (↑w.heap.words.length:Int)).step (↑w.heap.pages.length:Int)) (10) ‹_› ‹_›) (Fa (by(simp only[List.length_map];omega):(0:Int)≤(1:Int)∧1≤(↑(List.map Page.dv w.heap.pages).length:Int)) (Fr w.heap.conf.pw (Fr w.heap.conf.pg (Fr (List.map wdv w.heap.words) (Fa (by exact hq:List.take ((↑(List.map Page.dv w.heap.pages).length:Int).toNat-Int.toNat 1) (List.drop (Int.toNat 1) (List.map Page.dv w.heap.pages))=List.map Page.dv (WorldM.mk (Heap.mk w.heap.conf w.heap.words (List.drop 1 w.heap.pages) w.heap.space w.heap.bump) w.strong w.weak).heap.pages) (Fr w.heap.space (Fr w.heap.bump (Fr (List.map wdv w.strong) (Fr (List.map wdv w.weak) Fz))))))))))))))))))))
theorem Zl5(hd:(spT2 w t).next 12=11):LentSpec Tryz.prog 40 [w.av,.pt 0 0 0] [t.b] (w.spoil t).av [(w.spoilT t).b]:=by
 have e7:w.spoil t=⟨⟨w.heap.conf,w.heap.words,w.heap.pages.map pinQ,w.heap.space,w.heap.bump⟩,w.strong,w.weak⟩:=by simp[WorldM.spoil,spH,hd]
 have e8:w.spoilT t=spT3 w t:=by simp[WorldM.spoilT,spN,hd]
 have s1:=Z0u (t:=t) (w.heap.words.length:Int)
 have s2:(t.step (w.heap.words.length:Int)).at'≤(spT2 w t).at'∧(spT2 w t).at'≤(t.step (w.heap.words.length:Int)).at'+1∧(spT2 w t).l=(t.step (w.heap.words.length:Int)).l:=Z0u _
 have s3:(spT2 w t).at'≤(spT3 w t).at'∧(spT3 w t).at'≤(spT2 w t).at'+1∧(spT3 w t).l=(spT2 w t).l:=Z0u _
 have k1:=Z0I ht s1.2.2 (by omega) (by omega)
 have k2:TOk (spT2 w t):=Z0I k1 s2.2.2 (by omega) (by omega)
 have k3:TOk (spT3 w t):=Z0I k2 s3.2.2 (by omega) (by omega)
 have a1:=hm.wl
 have a2:=hm.pl
 have a3:=hm.cw
 have hw:=hm.words
 have n1:=Z0d t (n:=(w.heap.words.length:Int)) (by omega)
 have n2:=Z0d (t.step (w.heap.words.length:Int)) (n:=(w.heap.pages.length:Int)) (by omega)
 rw[e7,e8]
 unfold spT3 spT2 at *
 exact lF Tryz.func40 [] (Fs 11 (List.map wdv []) (Fa (by(simp[spV,spQ,spPg,spI,spP,spT3,spT2,spList, *];omega):(List.map wdv []).length+(List.map wdv w.heap.words).length≤2^30) (Fs 14 (List.map wdv w.heap.words) (Fs 15 (List.map Page.dv []) (Fa (by(simp[spV,spQ,spPg,spI,spP,spT3,spT2,spList, *];omega):(List.map Page.dv []).length+(List.map Page.dv w.heap.pages).length≤2^30) (Fs 18 (List.map Page.dv w.heap.pages) (Fl 24 wdv w.heap.words (Fp 25 (@Z0f t ((↑w.heap.words.length:Int)) ‹_› (by omega) (by omega)) (Fl 29 Page.dv w.heap.pages (Fp 30 (@Z0f (t.step (↑w.heap.words.length:Int)) ((↑w.heap.pages.length:Int)) ‹_› (by omega) (by omega)) (Fp 32 (@Z0O ((t.step (↑w.heap.words.length:Int)).step (↑w.heap.pages.length:Int)) (11) ‹_› ‹_›) (Fu (@ZlU w (((t.step (↑w.heap.words.length:Int)).step (↑w.heap.pages.length:Int)).step 12) (by omega)) Fz))))))))))))
theorem Z3y:LentSpec Tryz.prog 40 [w.av,.pt 0 0 0] [t.b] (w.spoil t).av [(w.spoilT t).b]:=by
 have n:=Z0d (spT2 w t) (n:=12) (by decide)
 have hd:(spT2 w t).next 12=0∨(spT2 w t).next 12=1∨(spT2 w t).next 12=2∨(spT2 w t).next 12=3∨(spT2 w t).next 12=4∨(spT2 w t).next 12=5∨(spT2 w t).next 12=6∨(spT2 w t).next 12=7∨(spT2 w t).next 12=8∨(spT2 w t).next 12=9∨(spT2 w t).next 12=10∨(spT2 w t).next 12=11:=by omega
 rcases hd with hd | hd | hd | hd | hd | hd | hd | hd | hd | hd | hd | hd
 ·exact Zm2 w t hm ht ha hus hd
 ·exact Zmv w t hm ht ha hus hd
 ·exact Zmz w t hm ht ha hus hd
 ·exact ZmW w t hm ht ha hus hd
 ·exact Zmt w t hm ht ha hus hd
 ·exact ZmE w t hm ht ha hus hd
 ·exact Zm8 w t hm ht ha hus hd
 ·exact Zmo w t hm ht ha hus hd
 ·exact Zmc w t hm ht ha hus hd
 ·exact Zn3 w t hm ht ha hus hd
 ·exact ZlQ w t hm ht ha hus hd
 ·exact Zl5 w t hm ht ha hus hd
end
structure HOk (h:Heap):Prop where
 w:WOk h.words
 wl:h.words.length≤1048576
 pl:h.pages.length≤1048576
theorem Zcr(n:Int):0≤IntKind.u64.wrap n∧IntKind.u64.wrap n≤18446744073709551615:=by
 unfold IntKind.wrap
 simp only[IntKind.signed,IntKind.bits,Bool.false_and,Bool.false_eq_true,if_false]
 omega
theorem Zc2{w:WorldM}(hw:WOk w.heap.words)(t:Tape)(d:Int):0≤spV w t d∧spV w t d≤18446744073709551615:=by
 unfold spV
 split
 ·have h:∀ x∈spList,0≤x∧x≤18446744073709551615:=by
   intro x hx
   simp only[spList,List.mem_cons,List.not_mem_nil,or_false]at hx
   omega
  exact Z40 h _
 ·exact Zcr _
def hAwake9:Heap:=(⟨⟨16,8⟩,List.replicate 128 0,List.replicate 8 ⟨0,0,0,0⟩,0,-1⟩:Heap)
theorem Zac:WOk hAwake9.words∧Z0e hAwake9=⟨0,0,0⟩∧Z0e noHeap=⟨1,0,0⟩:=by
 refine⟨?_, ?_, ?_⟩
 ·unfold WOk hAwake9
  decide+kernel
 ·decide+kernel
 ·decide+kernel
theorem Zn9:GSpec Tryz.prog 44 [(⟨⟨16,8⟩,List.replicate 128 0,List.replicate 8 ⟨0,0,0,0⟩,0,-1⟩:Heap).av] true (bool true) []:=by
 obtain⟨f1,f2,f3⟩:=Zac
 have:=Z7H hAwake9 f1
 rw[f2]at this
 exact this
theorem ZhL{ρ:Rho}{w:World}{Im:Nat→Prop}{v:Value}(s:Nat)(h:Rel ρ w Im (.d (.sl 0 [])) v):Rel ρ w Im (.d (.sl s [])) v:=by
 cases h with
 | d h =>
  cases h with
  | slNil=>exact .d (.slNil _ _ _)
  | sl _ _ p n c f hn=>cases hn;exact .d (.slNil _ _ _)
theorem ZhU:GSpec Tryz.prog 42 [.ag [int 0,int 0,.d (.sl 0 []),.d (.sl 0 []),int 0,int 0]] true (Finding.av ⟨1,0,0⟩) []:=by
 intro w Im vs hIm hsz h
 refine Z5S noHeap (by intro x hx;simp[noHeap]at hx) (by decide+kernel) w Im vs hIm hsz (fun i x v hx hv=>?_)
 rcases i with _ | i
 ·cases hx
  obtain⟨cs,rfl,h2,h3,h4⟩:=Z2U (h 0 _ v rfl hv)
  refine .ag _ _ h2 h3 (fun i a u ha hu=>?_)
  rcases i with _ | _ | _ | _ | _ | _ | i
  ·cases ha;exact h4 0 _ u rfl hu
  ·cases ha;exact h4 1 _ u rfl hu
  ·cases ha;exact ZhL 1 (h4 2 _ u rfl hu)
  ·cases ha;exact ZhL 4 (h4 3 _ u rfl hu)
  ·cases ha;exact h4 4 _ u rfl hu
  ·cases ha;exact h4 5 _ u rfl hu
  ·cases (show(none:Option AV)=some a from ha)
 ·simp at hx
theorem ZbN:GSpec Tryz.prog 46 [] true (bool true) []:=by
 exact gF [] Tryz.func46 [] (Fc 5 (@Zjg) (Fc 9 (@Zn9) (FcG 12 true (fun hg=>by(try simp only[bs]at hg);exact @ZhU) Fz)))
theorem ZaW(w:WorldM)(t:Tape)(ht:TOk t)(ha:t.at'≤800000):TOk (w.spoilT t)∧(w.spoilT t).at'≤t.at'+4:=by
 have s1:=Z0u (t:=t) (w.heap.words.length:Int)
 have s2:(t.step (w.heap.words.length:Int)).at'≤(spT2 w t).at'∧(spT2 w t).at'≤(t.step (w.heap.words.length:Int)).at'+1∧(spT2 w t).l=(t.step (w.heap.words.length:Int)).l:=Z0u _
 have s3:(spT2 w t).at'≤(spT3 w t).at'∧(spT3 w t).at'≤(spT2 w t).at'+1∧(spT3 w t).l=(spT2 w t).l:=Z0u _
 have k1:=Z0I ht s1.2.2 (by omega) (by omega)
 have k2:TOk (spT2 w t):=Z0I k1 s2.2.2 (by omega) (by omega)
 have k3:TOk (spT3 w t):=Z0I k2 s3.2.2 (by omega) (by omega)
 unfold WorldM.spoilT
 split
 ·have s4:=Z0u (t:=spT3 w t) (spN w ((spT2 w t).next 12))
  exact⟨Z0I k3 s4.2.2 (by omega) (by omega),by omega⟩
 ·exact⟨k3,by omega⟩
theorem ZbK{w:WorldM}(hs:SOk w)(t:Tape):HOk (w.spoil t).heap:=by
 have a3:=hs.wl
 have a4:=hs.pl
 unfold WorldM.spoil spH
 simp only
 split
 ·refine⟨fun x hx=>?_,by simp only[List.length_set];omega,by simp only;omega⟩
  rcases List.mem_or_eq_of_mem_set hx with hx | rfl
  ·exact hs.words x hx
  ·exact Zc2 hs.words _ _
 ·split
  ·exact⟨hs.words,by simp only;omega,by simp only[List.length_set];omega⟩
  ·split
   ·exact⟨hs.words,by simp only;omega,by simp only;omega⟩
   ·split
    ·exact⟨hs.words,by simp only;omega,by simp only;omega⟩
    ·split
     ·exact⟨hs.words,by simp only;omega,by simp only;omega⟩
     ·split
      ·exact⟨hs.words,by simp only;omega,by simp only[List.length_drop];omega⟩
      ·exact⟨hs.words,by simp only;omega,by simp only[List.length_map];omega⟩
def usB(l:List Page):Prop:=∀ j,j<l.length→-1099511627776≤(l.getD j default).used∧(l.getD j default).used≤1099511627776
theorem Zjl{w:WorldM}(hm:MOk w 1000)(t:Tape):SOk (w.spoil t)∧usB (w.spoil t).heap.pages:=by
 have a1:=area hm.hv
 have a2:=validB_iff.1 hm.hv
 have a3:=hm.L
 have a4:=hm.pl
 have hus:∀ p∈w.heap.pages,0≤p.used∧p.used≤256:=fun p hp=>by
  obtain⟨j,hj,e⟩:=List.getElem_of_mem hp
  have:=hm.us j hj
  rw[List.getD_eq_getElem?_getD,List.getElem?_eq_getElem hj,← e]at *
  exact this
 have hu0:∀ {l:List Page},(∀ p∈l,-1000≤p.used∧p.used≤1000)→usB l:=fun h j hj=>by
  have:=h _ (getD_in hj)
  omega
 have hu1:usB w.heap.pages:=hu0 fun p hp=>by have:=hus p hp;omega
 unfold WorldM.spoil spH
 simp only
 split
 ·refine⟨⟨fun x hx=>?_,by simp only[List.length_set];omega,by simp only;omega,by simp only;omega⟩,hu1⟩
  rcases List.mem_or_eq_of_mem_set hx with hx | rfl
  ·exact hm.words x hx
  ·exact Zc2 hm.words _ _
 ·split
  ·refine⟨⟨hm.words,by simp only;omega,by simp only[List.length_set];omega,by simp only;omega⟩,hu0 fun p hp=>?_⟩
   have n9:=Z0d (spT3 w t) (n:=9) (by decide)
   have hq:(spPg w t).used=(w.heap.pages.getD (spP w t) default).used:=rfl
   have hd:-900≤(spPg w t).used∧(spPg w t).used≤500:=by
    rw[hq]
    by_cases hj:spP w t<w.heap.pages.length
    ·have:=hus _ (getD_in hj);omega
    ·rw[List.getD_eq_getElem?_getD,List.getElem?_eq_none (by omega)]
     decide
   rcases List.mem_or_eq_of_mem_set hp with hp | rfl
   ·have:=hus p hp;omega
   ·unfold spQ
    split
    ·simp only;omega
    ·split
     ·simp only;omega
     ·split
      ·simp only;omega
      ·simp only;omega
  ·split
   ·exact⟨⟨hm.words,by simp only;omega,by simp only;omega,by simp only;omega⟩,hu1⟩
   ·split
    ·exact⟨⟨hm.words,by simp only;omega,by simp only;omega,by simp only;omega⟩,hu1⟩
    ·split
     ·exact⟨⟨hm.words,by simp only;omega,by simp only;omega,by simp only;omega⟩,hu1⟩
     ·split
      ·exact⟨⟨hm.words,by simp only;omega,by simp only[List.length_drop];omega,by simp only;omega⟩,hu0 fun p hp=>by have:=hus p (List.mem_of_mem_drop hp);omega⟩
      ·refine⟨⟨hm.words,by simp only;omega,by simp only[List.length_map];omega,by simp only;omega⟩,hu0 fun p hp=>?_⟩
       obtain⟨q,hq,rfl⟩:=List.mem_map.1 hp
       have:=hus q hq
       unfold pinQ
       split
       ·simp only;omega
       ·omega
def Zk1(l:List Heap)(n:Int)(i:Nat):Tg:=⟨tm 76 [(6,bool false),(38,.ow 48037),(39,int n),(40,int i)],[(48037,.arr 28 6 (l.map Heap.dvs))],60⟩
theorem Zhp(l:List Heap)(n:Int)(i:Nat)(hh:HOk (l.getD i default))(hl:l.length≤4)(hn:n=l.length)(hi:i<l.length):CSpec Tryz.prog (rndF Tryz.f8 0) (Zk1 l n i).st .nrm (Zk1 l n (i+1)).st:=by
 have hw:=hh.w
 exact sF [] [] (Fh 43 [.el (l.getD (↑i:Int).toNat default).dvs] (Ftb 41 (decide ((↑i:Int)<n)) (Fa (by(simp only[List.length_map];omega):0≤(↑i:Int)∧(↑i:Int).toNat<(List.map Heap.dvs l).length) (Fa (by exact Z1c (by omega):(List.map Heap.dvs l)[(↑i:Int).toNat]? = some (l.getD (↑i:Int).toNat default).dvs) (Fc 45 (@Z6s (l.getD (↑i:Int).toNat default) ‹_›) (Fc 47 (@Z3E (l.getD (↑i:Int).toNat default) ‹_›) (FcG 69 (!((Z0e (l.getD (↑i:Int).toNat default)).fault != (Z0e (l.getD (↑i:Int).toNat default)).fault||(Z0e (l.getD (↑i:Int).toNat default)).page != (Z0e (l.getD (↑i:Int).toNat default)).page||(Z0e (l.getD (↑i:Int).toNat default)).addr != (Z0e (l.getD (↑i:Int).toNat default)).addr)) (fun hg=>by(try simp only[bs]at hg);exact @Z7H (l.getD (↑i:Int).toNat default) (by(try simp only[bs]at hg);assumption)) (FcG 71 (!((Z0e (l.getD (↑i:Int).toNat default)).fault != (Z0e (l.getD (↑i:Int).toNat default)).fault||(Z0e (l.getD (↑i:Int).toNat default)).page != (Z0e (l.getD (↑i:Int).toNat default)).page||(Z0e (l.getD (↑i:Int).toNat default)).addr != (Z0e (l.getD (↑i:Int).toNat default)).addr)) (fun hg=>by(try simp only[bs]at hg);exact @Z4R (l.getD (↑i:Int).toNat default) (by(try simp only[bs]at hg);assumption)) (Ff 73 (by simp only[bs, *,true_or,or_true,true_and,and_true,not_true_eq_false,not_false_eq_true,Bool.true_eq_false,Bool.false_eq_true]:((Z0e (l.getD (↑i:Int).toNat default)).fault != (Z0e (l.getD (↑i:Int).toNat default)).fault||(Z0e (l.getD (↑i:Int).toNat default)).page != (Z0e (l.getD (↑i:Int).toNat default)).page||(Z0e (l.getD (↑i:Int).toNat default)).addr != (Z0e (l.getD (↑i:Int).toNat default)).addr||!decide (Z0e (l.getD (↑i:Int).toNat default)=Finding.mk 0 0 0)==decide (Z0e (l.getD (↑i:Int).toNat default)=Finding.mk 0 0 0))=false) (Fx 74 i Fz))))))))))
theorem ZlE(l:List Heap)(n:Int)(hn:n=l.length):CSpec Tryz.prog (rndF Tryz.f8 0) (Zk1 l n l.length).st (.ext 0) (Tg.st ⟨tm 76 [(6,bool false)],[],64⟩):=by
 exact sF [] [] (Ffb 41 (decide ((↑l.length:Int)<n)) Fz)
theorem Zix(l:List Heap)(n:Int)(hh:∀ h∈l,HOk h)(hl:l.length≤4)(hn:n=l.length):CSpec Tryz.prog (blkF Tryz.f8 0) (Tg.st ⟨tm 76 [(6,bool false),(38,.ow 48037),(39,int n),(40,int 0)],[(48037,.arr 28 6 (l.map Heap.dvs))],60⟩) .nrm (Tg.st ⟨tm 76 [(6,bool false)],[],64⟩) :=
 Z0b (S:=fun i=>(Zk1 l n i).st) l.length (by kernel_rfl) (fun i hi=>Zhp l n i (hh _ (by rw[List.getD_eq_getElem?_getD,List.getElem?_eq_getElem hi];exact List.getElem_mem hi)) hl hn hi) (ZlE l n hn)
def Zju(l:List Heap)(n:Int)(i:Nat):Tg:=⟨tm 76 [(6,bool false),(38,.ow 32031),(39,int n),(40,int i)],[(32031,.arr 28 6 (l.map Heap.dvs))],60⟩
theorem Zhx(l:List Heap)(n:Int)(i:Nat)(hh:HOk (l.getD i default))(hl:l.length≤4)(hn:n=l.length)(hi:i<l.length):CSpec Tryz.prog (rndF Tryz.f8 0) (Zju l n i).st .nrm (Zju l n (i+1)).st:=by
 have hw:=hh.w
 exact sF [] [] (Fh 43 [.el (l.getD (↑i:Int).toNat default).dvs] (Ftb 41 (decide ((↑i:Int)<n)) (Fa (by(simp only[List.length_map];omega):0≤(↑i:Int)∧(↑i:Int).toNat<(List.map Heap.dvs l).length) (Fa (by exact Z1c (by omega):(List.map Heap.dvs l)[(↑i:Int).toNat]? = some (l.getD (↑i:Int).toNat default).dvs) (Fc 45 (@Z6s (l.getD (↑i:Int).toNat default) ‹_›) (Fc 47 (@Z3E (l.getD (↑i:Int).toNat default) ‹_›) (FcG 69 (!((Z0e (l.getD (↑i:Int).toNat default)).fault != (Z0e (l.getD (↑i:Int).toNat default)).fault||(Z0e (l.getD (↑i:Int).toNat default)).page != (Z0e (l.getD (↑i:Int).toNat default)).page||(Z0e (l.getD (↑i:Int).toNat default)).addr != (Z0e (l.getD (↑i:Int).toNat default)).addr)) (fun hg=>by(try simp only[bs]at hg);exact @Z7H (l.getD (↑i:Int).toNat default) (by(try simp only[bs]at hg);assumption)) (FcG 71 (!((Z0e (l.getD (↑i:Int).toNat default)).fault != (Z0e (l.getD (↑i:Int).toNat default)).fault||(Z0e (l.getD (↑i:Int).toNat default)).page != (Z0e (l.getD (↑i:Int).toNat default)).page||(Z0e (l.getD (↑i:Int).toNat default)).addr != (Z0e (l.getD (↑i:Int).toNat default)).addr)) (fun hg=>by(try simp only[bs]at hg);exact @Z4R (l.getD (↑i:Int).toNat default) (by(try simp only[bs]at hg);assumption)) (Ff 73 (by simp only[bs, *,true_or,or_true,true_and,and_true,not_true_eq_false,not_false_eq_true,Bool.true_eq_false,Bool.false_eq_true]:((Z0e (l.getD (↑i:Int).toNat default)).fault != (Z0e (l.getD (↑i:Int).toNat default)).fault||(Z0e (l.getD (↑i:Int).toNat default)).page != (Z0e (l.getD (↑i:Int).toNat default)).page||(Z0e (l.getD (↑i:Int).toNat default)).addr != (Z0e (l.getD (↑i:Int).toNat default)).addr||!decide (Z0e (l.getD (↑i:Int).toNat default)=Finding.mk 0 0 0)==decide (Z0e (l.getD (↑i:Int).toNat default)=Finding.mk 0 0 0))=false) (Fx 74 i Fz))))))))))
theorem ZkN(l:List Heap)(n:Int)(hn:n=l.length):CSpec Tryz.prog (rndF Tryz.f8 0) (Zju l n l.length).st (.ext 0) (Tg.st ⟨tm 76 [(6,bool false)],[],64⟩):=by
 exact sF [] [] (Ffb 41 (decide ((↑l.length:Int)<n)) Fz)
theorem Zj2(l:List Heap)(n:Int)(hh:∀ h∈l,HOk h)(hl:l.length≤4)(hn:n=l.length):CSpec Tryz.prog (blkF Tryz.f8 0) (Tg.st ⟨tm 76 [(6,bool false),(38,.ow 32031),(39,int n),(40,int 0)],[(32031,.arr 28 6 (l.map Heap.dvs))],60⟩) .nrm (Tg.st ⟨tm 76 [(6,bool false)],[],64⟩) :=
 Z0b (S:=fun i=>(Zju l n i).st) l.length (by kernel_rfl) (fun i hi=>Zhx l n i (hh _ (by rw[List.getD_eq_getElem?_getD,List.getElem?_eq_getElem hi];exact List.getElem_mem hi)) hl hn hi) (ZkN l n hn)
theorem Zgu(raw:Heap)(tape odd:List Int)(hw:WOk raw.words)(h1:tape.length≤140737488355328)(h2:odd.length≤140737488355328):GSpec Tryz.prog 8 [raw.av,Z0E tape,Z0E odd] true (bool true) []:=by
 have hm:=ZiP tape
 have hso:=hm.so
 have ht:TOk ⟨odd,0⟩:=by simp[TOk];omega
 have hus:∀ j,j<(Z06 tape).heap.pages.length→-1099511627776≤((Z06 tape).heap.pages.getD j default).used∧((Z06 tape).heap.pages.getD j default).used≤1099511627776:=fun j hj=>by
  have:=hm.us j hj;omega
 obtain⟨t1,t2⟩:=ZaW (Z06 tape) ⟨odd,0⟩ ht (by show(0:Int)≤800000;omega)
 obtain⟨t3,t4⟩:=ZaW (Z06 tape) ((Z06 tape).spoilT ⟨odd,0⟩) t1 (by simp only at t2;omega)
 obtain⟨s1,s2⟩:=Zjl hm ((Z06 tape).spoilT ⟨odd,0⟩)
 have s2':∀ j,j<((Z06 tape).spoil ((Z06 tape).spoilT ⟨odd,0⟩)).heap.pages.length→-1099511627776≤(((Z06 tape).spoil ((Z06 tape).spoilT ⟨odd,0⟩)).heap.pages.getD j default).used∧(((Z06 tape).spoil ((Z06 tape).spoilT ⟨odd,0⟩)).heap.pages.getD j default).used≤1099511627776:=s2
 simp only at t2
 have t5:((Z06 tape).spoilT ⟨odd,0⟩).at'≤900000:=by omega
 have t6:((Z06 tape).spoilT ((Z06 tape).spoilT ⟨odd,0⟩)).at'≤900000:=by omega
 have g1:HOk (Z06 tape).heap:=by
  have a1:=area hm.hv
  have a2:=validB_iff.1 hm.hv
  have a3:=hm.L
  have a4:=hm.pl
  exact⟨hm.words,by omega,by omega⟩
 have g2:=ZbK hso ⟨odd,0⟩
 have g3:=ZbK s1 ((Z06 tape).spoilT ((Z06 tape).spoilT ⟨odd,0⟩))
 by_cases hl:raw.words.length≤5000∧raw.pages.length≤100
 ·have q1:∀ h∈[(Z06 tape).heap,((Z06 tape).spoil ⟨odd,0⟩).heap,(((Z06 tape).spoil ((Z06 tape).spoilT ⟨odd,0⟩)).spoil ((Z06 tape).spoilT ((Z06 tape).spoilT ⟨odd,0⟩))).heap,raw],HOk h:=by
   intro h hh
   simp only[List.mem_cons,List.not_mem_nil,or_false]at hh
   rcases hh with rfl | rfl | rfl | rfl
   ·exact g1
   ·exact g2
   ·exact g3
   ·exact⟨hw,by omega,by omega⟩
  have q2:([(Z06 tape).heap,((Z06 tape).spoil ⟨odd,0⟩).heap,(((Z06 tape).spoil ((Z06 tape).spoilT ⟨odd,0⟩)).spoil ((Z06 tape).spoilT ((Z06 tape).spoilT ⟨odd,0⟩))).heap,raw]:List Heap).length≤4:=by simp
  exact gF [] Tryz.func8 [] (Fh 33 [.call true (Sx.bool (decide (raw.words.length≤5000∧raw.pages.length≤100))) [],.br true] (Fh 39 [.int (↑(0+1+1+1+1):Int)] (Fc 15 (@Zey tape ‹_›) (Fp 23 (@Z3y (Z06 tape) (Tape.mk odd 0) ‹_› ‹_› (by(simp only[bs];omega)) ‹_›) (Fp 27 (@Z3y (Z06 tape) ((Z06 tape).spoilT (Tape.mk odd 0)) ‹_› (by omega) (by omega) ‹_›) (Fp 29 (@Z3y ((Z06 tape).spoil ((Z06 tape).spoilT (Tape.mk odd 0))) ((Z06 tape).spoilT ((Z06 tape).spoilT (Tape.mk odd 0))) ‹_› ‹_› ‹_› ‹_›) (Fs 31 (List.map Heap.dvs [(Z06 tape).heap,((Z06 tape).spoil (Tape.mk odd 0)).heap,(((Z06 tape).spoil ((Z06 tape).spoilT (Tape.mk odd 0))).spoil ((Z06 tape).spoilT ((Z06 tape).spoilT (Tape.mk odd 0)))).heap]) (Fa (@ZaT raw) (Fb (decide (raw.words.length≤5000∧raw.pages.length≤100)=true) (Fs 36 (List.map Heap.dvs [raw]) (Fa (by simp[*]:(List.map Heap.dvs [(Z06 tape).heap,((Z06 tape).spoil (Tape.mk odd 0)).heap,(((Z06 tape).spoil ((Z06 tape).spoilT (Tape.mk odd 0))).spoil ((Z06 tape).spoilT ((Z06 tape).spoilT (Tape.mk odd 0)))).heap]).length+(List.map Heap.dvs [raw]).length≤2^30) (Fs 37 (List.map Heap.dvs [(Z06 tape).heap,((Z06 tape).spoil (Tape.mk odd 0)).heap,(((Z06 tape).spoil ((Z06 tape).spoilT (Tape.mk odd 0))).spoil ((Z06 tape).spoilT ((Z06 tape).spoilT (Tape.mk odd 0)))).heap,raw]) (Fr (↑(List.map Heap.dvs [(Z06 tape).heap,((Z06 tape).spoil (Tape.mk odd (0:Int))).heap,(((Z06 tape).spoil ((Z06 tape).spoilT (Tape.mk odd (0:Int)))).spoil ((Z06 tape).spoilT ((Z06 tape).spoilT (Tape.mk odd (0:Int))))).heap,raw]).length:Int) (Fu (@Zix ([(Z06 tape).heap,((Z06 tape).spoil (Tape.mk odd 0)).heap,(((Z06 tape).spoil ((Z06 tape).spoilT (Tape.mk odd 0))).spoil ((Z06 tape).spoilT ((Z06 tape).spoilT (Tape.mk odd 0)))).heap,raw]) (4) ‹_› ‹_› (by rfl)) (Fc 75 (@ZbN) Fz)))))))))))))))
 ·have q1:∀ h∈[(Z06 tape).heap,((Z06 tape).spoil ⟨odd,0⟩).heap,(((Z06 tape).spoil ((Z06 tape).spoilT ⟨odd,0⟩)).spoil ((Z06 tape).spoilT ((Z06 tape).spoilT ⟨odd,0⟩))).heap],HOk h:=by
   intro h hh
   simp only[List.mem_cons,List.not_mem_nil,or_false]at hh
   rcases hh with rfl | rfl | rfl
   ·exact g1
   ·exact g2
   ·exact g3
  have q2:([(Z06 tape).heap,((Z06 tape).spoil ⟨odd,0⟩).heap,(((Z06 tape).spoil ((Z06 tape).spoilT ⟨odd,0⟩)).spoil ((Z06 tape).spoilT ((Z06 tape).spoilT ⟨odd,0⟩))).heap]:List Heap).length≤4:=by simp
  exact gF [] Tryz.func8 [] (Fh 33 [.call true (Sx.bool (decide (raw.words.length≤5000∧raw.pages.length≤100))) [],.br false] (Fh 39 [.int (↑(0+1+1+1):Int)] (Fc 15 (@Zey tape ‹_›) (Fp 23 (@Z3y (Z06 tape) (Tape.mk odd 0) ‹_› ‹_› (by(simp only[bs];omega)) ‹_›) (Fp 27 (@Z3y (Z06 tape) ((Z06 tape).spoilT (Tape.mk odd 0)) ‹_› (by omega) (by omega) ‹_›) (Fp 29 (@Z3y ((Z06 tape).spoil ((Z06 tape).spoilT (Tape.mk odd 0))) ((Z06 tape).spoilT ((Z06 tape).spoilT (Tape.mk odd 0))) ‹_› ‹_› ‹_› ‹_›) (Fs 31 (List.map Heap.dvs [(Z06 tape).heap,((Z06 tape).spoil (Tape.mk odd 0)).heap,(((Z06 tape).spoil ((Z06 tape).spoilT (Tape.mk odd 0))).spoil ((Z06 tape).spoilT ((Z06 tape).spoilT (Tape.mk odd 0)))).heap]) (Fa (@ZaT raw) (Fb (decide (raw.words.length≤5000∧raw.pages.length≤100)=false) (Fr (↑(List.map Heap.dvs [(Z06 tape).heap,((Z06 tape).spoil (Tape.mk odd (0:Int))).heap,(((Z06 tape).spoil ((Z06 tape).spoilT (Tape.mk odd (0:Int)))).spoil ((Z06 tape).spoilT ((Z06 tape).spoilT (Tape.mk odd (0:Int))))).heap]).length:Int) (Fu (@Zj2 ([(Z06 tape).heap,((Z06 tape).spoil (Tape.mk odd 0)).heap,(((Z06 tape).spoil ((Z06 tape).spoilT (Tape.mk odd 0))).spoil ((Z06 tape).spoilT ((Z06 tape).spoilT (Tape.mk odd 0)))).heap]) (3) ‹_› ‹_› (by rfl)) (Fc 75 (@ZbN) Fz))))))))))))
end Go.Proofs.YtolnblaadleknaaGreat
namespace Go.Proofs.YtolnblaadleknaaGreat
open Go.Sx Go.RowKit
theorem Z6b(os:Os)(started:os.Started)(H:Type)(enc:TypeId×Value→H) :
  ReturnsInHanded {} Tryz.checked os 8 .any (Rows.auditChecksSpec.pre6 enc Tryz.prog Tryz.f8 Rows.auditChecksRow.domain false) (Rows.auditChecksSpec.post enc Tryz.prog Tryz.f8 false true false false):=by
 refine ZbR (C:=Tryz.checked) (tb:=4) 5 own0 started (by kernel_rfl) Tryz.func8
  (ChangeSpec.witness6 (enc:=enc) (C:=Tryz.checked) false ⟨#[],#[.agg #[.int .i64 0,.int .i64 0,.slice none 0 0,.slice none 0 0,.int .i64 0,.int .i64 0],.slice none 0 0,.slice none 0 0],[]⟩ 8 (by kernel_rfl) (by kernel_rfl) (by kernel_rfl) (by kernel_rfl))
  ZiG (by kernel_rfl) (by kernel_rfl) (by kernel_rfl) (by kernel_rfl) rfl (fun ds hd=>?_) (fun ls hl h=>?_)
 ·match ds,hd with
  | [a0,a1,a2],_=>rfl
 ·match ls,hl with
  | [l0,l1,l2],_ =>
   obtain⟨raw,rfl,hraw⟩:=ZiK (n:=1) (h 0 28 l0 (by kernel_rfl) rfl)
   obtain⟨tape,rfl,htape⟩:=Ze0 (n:=3) (h 1 22 l1 (by kernel_rfl) rfl)
   obtain⟨odd,rfl,hodd⟩:=Ze0 (n:=3) (h 2 22 l2 (by kernel_rfl) rfl)
   have e:Z9Z Tryz.prog Tryz.f8.params.toList [ZmT raw,[.sl 1 (tape.map idv)],[.sl 1 (odd.map idv)]]=[raw.av,Z0E tape,Z0E odd]:=by kernel_rfl
   exact⟨true,e▸Zgu raw tape odd hraw htape hodd⟩
theorem Z8x:(Rows.auditChecksRow.inPlace==Tryz.prog.inPlace 8)=true:=by kernel_rfl
theorem Z8L:(Rows.auditChecksRow.unfollowed==Tryz.prog.unfollowed 8)=true:=by kernel_rfl
theorem Z8H:(Rows.auditChecksRow.recurses==Tryz.prog.recurses 8)=true:=by kernel_rfl
theorem Z8I:(Rows.auditChecksRow.named==Tryz.prog.varsNamed 8)=true:=by kernel_rfl
theorem Z5N:joinedFacts Tryz.prog 8 Tryz.f8 Rows.auditChecksSpec Rows.auditChecksRow=true:=by
 unfold joinedFacts
 rw[Z8x,Z8L,Z8H,Z8I]
 kernel_rfl
theorem auditChecks_holds:Rows.AuditChecksSaid :=
 OpenClaim.holds_of_wide 8 Tryz.f8 rfl rfl rfl rfl rfl rfl rfl ⟨rfl,rfl,rfl,rfl,rfl⟩ rfl rfl rfl rfl rfl (by kernel_rfl) Tryz.func8 Z5N
  (of_decide_eq_true (by kernel_rfl)) (by unfold Func.isWrapper;first | (rw[if_pos (by decide+kernel)];kernel_rfl) | (rw[if_neg (by decide+kernel)];exact⟨rfl,rfl⟩))
  (fun os started H enc _=>Z6b os started H enc)
end Go.Proofs.YtolnblaadleknaaGreat
