/-
 The statement AuditRefers: part 13.
 Conditions: none.
-/
import Derived.Test.YtolnblaadleknaaGreatT12
set_option maxRecDepth 100000
set_option maxHeartbeats 2000000
set_option linter.all false
namespace Go.Proofs.YtolnblaadleknaaGreat
open Go.Sx
def pinB(w:WorldM)(i:Nat)(n:Int):WorldM:=⟨⟨w.heap.conf,w.heap.words,w.heap.pages.set i ⟨(w.heap.pages.getD i default).kind,(w.heap.pages.getD i default).space,(w.heap.pages.getD i default).used,(w.heap.pages.getD i default).pins+n⟩,w.heap.space,w.heap.bump⟩,w.strong,w.weak⟩
def pinI(w:WorldM)(t:Tape):Nat:=(ofA w.heap.conf (w.pick t)).1.toNat
def WorldM.pin(w:WorldM)(t:Tape):WorldM :=
  if(ofA w.heap.conf (w.pick t)).2.2=0 then
    (if 0<(w.heap.pages.getD (pinI w t) default).pins∧(w.pickT t).next 2=0 then pinB w (pinI w t) (-1)
     else if 0<(w.heap.pages.getD (pinI w t) default).pins∨(w.heap.pages.getD (pinI w t) default).kind=2∨(crowd w.heap.pages:Int)<w.heap.conf.pg/4 then pinB w (pinI w t) 1 else w)else w
def WorldM.pinT(w:WorldM)(t:Tape):Tape:=if(ofA w.heap.conf (w.pick t)).2.2=0∧0<(w.heap.pages.getD (pinI w t) default).pins then(w.pickT t).step 2 else w.pickT t
theorem Zjr(w:WorldM)(t:Tape)(hw:WMok w)(ht:TOk t)(ha:t.at'≤1000000)(hv:Z05 w.heap.conf=true)(hp:(w.heap.pages.length:Int)=w.heap.conf.pg)(hpn:∀ j,j<w.heap.pages.length→-1048576≤(w.heap.pages.getD j default).pins∧(w.heap.pages.getD j default).pins≤4294967296):LentSpec Tryz.prog 160 [w.av,.pt 0 0 0] [t.b] (w.pin t).av [(w.pinT t).b]:=by
 have hb:=validB_iff.1 hv
 have s1:=Zaq w t
 have k1:=Z0T ht s1.2.2 (by omega) (by omega)
 have p1:=Z3z hw t
 have q1:=hpn (pinI w t)
 have hcr:=Z2t w.heap.pages w.heap.pages.length
 unfold pinI at q1
 have o1:=fun e=>Z4n (a:=w.pick t) hv e
 by_cases e:(ofA w.heap.conf (w.pick t)).2.2=0
 ·have o2:=o1 e
  by_cases c1:0<(w.heap.pages.getD (ofA w.heap.conf (w.pick t)).1.toNat default).pins
  ·have eT:w.pinT t=(w.pickT t).step 2:=by rw[WorldM.pinT,if_pos ⟨e,c1⟩]
   by_cases c2:(w.pickT t).next 2=0
   ·have eP:w.pin t=⟨⟨w.heap.conf,w.heap.words,w.heap.pages.set (ofA w.heap.conf (w.pick t)).1.toNat ⟨(w.heap.pages.getD (ofA w.heap.conf (w.pick t)).1.toNat default).kind,(w.heap.pages.getD (ofA w.heap.conf (w.pick t)).1.toNat default).space,(w.heap.pages.getD (ofA w.heap.conf (w.pick t)).1.toNat default).used,(w.heap.pages.getD (ofA w.heap.conf (w.pick t)).1.toNat default).pins-1⟩,w.heap.space,w.heap.bump⟩,w.strong,w.weak⟩:=by rw[WorldM.pin,if_pos e,if_pos ⟨c1,c2⟩];rfl
    rw[eP,eT]
    exact lF Tryz.func160 [] (Fh 42 [.br true] (Fh 37 [.br true] (Fh 51 [.el (w.heap.pages.getD (ofA w.heap.conf (w.pick t)).fst.toNat default).dv] (Fp 12 (@Z1K w t ‹_› ‹_› (by omega)) (Fc 18 (@Z47 w.heap.conf (w.pick t) (by omega) (by omega)) (Ffb 23 ((ofA w.heap.conf (w.pick t)).snd.snd != 0) (Fs 25 (List.map Page.dv []) (Fa (by(simp[*];omega):(List.map Page.dv []).length+(List.map Page.dv w.heap.pages).length≤2^30) (Fs 29 (List.map Page.dv w.heap.pages) (Fm 41 Page.dv w.heap.pages ((ofA w.heap.conf (w.pick t)).fst) ((ofA w.heap.conf (w.pick t)).fst.toNat) (Fb (decide (0<(w.heap.pages.getD (ofA w.heap.conf (w.pick t)).fst.toNat default).pins)=true) (Fp 45 (@Z0e (w.pickT t) (2) ‹_› (by omega) (by omega)) (Fb (((w.pickT t).next (2:Int)==0)=true) (Fa (by exact Z1e (by omega):(List.map Page.dv w.heap.pages)[(ofA w.heap.conf (w.pick t)).fst.toNat]? = some (w.heap.pages.getD (ofA w.heap.conf (w.pick t)).fst.toNat default).dv) (Fi 52 ((w.heap.pages.getD (ofA w.heap.conf (w.pick t)).fst.toNat default).pins-1) (Fa (by exact Z1e (by omega):(List.map Page.dv w.heap.pages)[(ofA w.heap.conf (w.pick t)).fst.toNat]? = some (w.heap.pages.getD (ofA w.heap.conf (w.pick t)).fst.toNat default).dv) (FS 10054 Page.dv w.heap.pages ((ofA w.heap.conf (w.pick t)).fst.toNat) (Page.mk (w.heap.pages.getD (ofA w.heap.conf (w.pick t)).fst.toNat default).kind (w.heap.pages.getD (ofA w.heap.conf (w.pick t)).fst.toNat default).space (w.heap.pages.getD (ofA w.heap.conf (w.pick t)).fst.toNat default).used ((w.heap.pages.getD (ofA w.heap.conf (w.pick t)).fst.toNat default).pins-1)) ((w.heap.pages.getD (ofA w.heap.conf (w.pick t)).fst.toNat default).dv) Fz)))))))))))))))))
   ·have eP:w.pin t=⟨⟨w.heap.conf,w.heap.words,w.heap.pages.set (ofA w.heap.conf (w.pick t)).1.toNat ⟨(w.heap.pages.getD (ofA w.heap.conf (w.pick t)).1.toNat default).kind,(w.heap.pages.getD (ofA w.heap.conf (w.pick t)).1.toNat default).space,(w.heap.pages.getD (ofA w.heap.conf (w.pick t)).1.toNat default).used,(w.heap.pages.getD (ofA w.heap.conf (w.pick t)).1.toNat default).pins+1⟩,w.heap.space,w.heap.bump⟩,w.strong,w.weak⟩:=by rw[WorldM.pin,if_pos e,if_neg (fun q=>c2 q.2),if_pos (.inl c1)];rfl
    rw[eP,eT]
    exact lF Tryz.func160 [] (Fh 42 [.br true] (Fh 37 [.br false] (Fh 59 [.el (w.heap.pages.getD (ofA w.heap.conf (w.pick t)).fst.toNat default).dv] (Fh 65 [.el (w.heap.pages.getD (ofA w.heap.conf (w.pick t)).fst.toNat default).dv] (Fh 76 [.int (w.heap.conf.pg/4)] (Fh 55 [.br true] (Fh 82 [.el (w.heap.pages.getD (ofA w.heap.conf (w.pick t)).fst.toNat default).dv] (Fp 12 (@Z1K w t ‹_› ‹_› (by omega)) (Fc 18 (@Z47 w.heap.conf (w.pick t) (by omega) (by omega)) (Ffb 23 ((ofA w.heap.conf (w.pick t)).snd.snd != 0) (Fs 25 (List.map Page.dv []) (Fa (by(simp[*];omega):(List.map Page.dv []).length+(List.map Page.dv w.heap.pages).length≤2^30) (Fs 29 (List.map Page.dv w.heap.pages) (Fm 41 Page.dv w.heap.pages ((ofA w.heap.conf (w.pick t)).fst) ((ofA w.heap.conf (w.pick t)).fst.toNat) (Fb (decide (0<(w.heap.pages.getD (ofA w.heap.conf (w.pick t)).fst.toNat default).pins)=true) (Fp 45 (@Z0e (w.pickT t) (2) ‹_› (by omega) (by omega)) (Fb (((w.pickT t).next (2:Int)==0)=false) (Fa (by exact Z1e (by omega):(List.map Page.dv w.heap.pages)[(ofA w.heap.conf (w.pick t)).fst.toNat]? = some (w.heap.pages.getD (ofA w.heap.conf (w.pick t)).fst.toNat default).dv) (Fa (by intro hg;(try simp only[bs]at hg);exact Z1e (by omega):(!decide (0<(w.heap.pages.getD (ofA w.heap.conf (w.pick t)).fst.toNat default).pins))=true→(List.map Page.dv w.heap.pages)[(ofA w.heap.conf (w.pick t)).fst.toNat]? = some (w.heap.pages.getD (ofA w.heap.conf (w.pick t)).fst.toNat default).dv) (FcG 71 (!(decide (0<(w.heap.pages.getD (ofA w.heap.conf (w.pick t)).fst.toNat default).pins)||(w.heap.pages.getD (ofA w.heap.conf (w.pick t)).fst.toNat default).kind==2)) (fun hg=>by(try simp only[bs]at hg);exact @Z81 w.heap (by(try simp only[bs]at hg);omega)) (Fa (by intro hg;(try simp only[bs]at hg);rw[wrapI' (by omega) (by omega)];omega:(!(decide (0<(w.heap.pages.getD (ofA w.heap.conf (w.pick t)).fst.toNat default).pins)||(w.heap.pages.getD (ofA w.heap.conf (w.pick t)).fst.toNat default).kind==2))=true→IntKind.i64.wrap (w.heap.conf.pg.tdiv 4)=w.heap.conf.pg/4) (Fa (by intro hg;(try simp only[bs]at hg);omega:(!(decide (0<(w.heap.pages.getD (ofA w.heap.conf (w.pick t)).fst.toNat default).pins)||(w.heap.pages.getD (ofA w.heap.conf (w.pick t)).fst.toNat default).kind==2))=true→(4:Int)=0→False) (Fb ((decide (0<(w.heap.pages.getD (ofA w.heap.conf (w.pick t)).fst.toNat default).pins)||(w.heap.pages.getD (ofA w.heap.conf (w.pick t)).fst.toNat default).kind==2||decide ((↑(crowd w.heap.pages):Int)<w.heap.conf.pg/4))=true) (Fa (by exact Z1e (by omega):(List.map Page.dv w.heap.pages)[(ofA w.heap.conf (w.pick t)).fst.toNat]? = some (w.heap.pages.getD (ofA w.heap.conf (w.pick t)).fst.toNat default).dv) (Fi 83 ((w.heap.pages.getD (ofA w.heap.conf (w.pick t)).fst.toNat default).pins+1) (Fa (by exact Z1e (by omega):(List.map Page.dv w.heap.pages)[(ofA w.heap.conf (w.pick t)).fst.toNat]? = some (w.heap.pages.getD (ofA w.heap.conf (w.pick t)).fst.toNat default).dv) (FS 10085 Page.dv w.heap.pages ((ofA w.heap.conf (w.pick t)).fst.toNat) (Page.mk (w.heap.pages.getD (ofA w.heap.conf (w.pick t)).fst.toNat default).kind (w.heap.pages.getD (ofA w.heap.conf (w.pick t)).fst.toNat default).space (w.heap.pages.getD (ofA w.heap.conf (w.pick t)).fst.toNat default).used ((w.heap.pages.getD (ofA w.heap.conf (w.pick t)).fst.toNat default).pins+1)) ((w.heap.pages.getD (ofA w.heap.conf (w.pick t)).fst.toNat default).dv) Fz)))))))))))))))))))))))))))
  ·have eT:w.pinT t=w.pickT t:=by rw[WorldM.pinT,if_neg (fun q=>c1 q.2)]
   by_cases c3:(w.heap.pages.getD (ofA w.heap.conf (w.pick t)).1.toNat default).kind=2∨(crowd w.heap.pages:Int)<w.heap.conf.pg/4
   ·have eP:w.pin t=⟨⟨w.heap.conf,w.heap.words,w.heap.pages.set (ofA w.heap.conf (w.pick t)).1.toNat ⟨(w.heap.pages.getD (ofA w.heap.conf (w.pick t)).1.toNat default).kind,(w.heap.pages.getD (ofA w.heap.conf (w.pick t)).1.toNat default).space,(w.heap.pages.getD (ofA w.heap.conf (w.pick t)).1.toNat default).used,(w.heap.pages.getD (ofA w.heap.conf (w.pick t)).1.toNat default).pins+1⟩,w.heap.space,w.heap.bump⟩,w.strong,w.weak⟩:=by rw[WorldM.pin,if_pos e,if_neg (fun q=>c1 q.1),if_pos (.inr c3)];rfl
    rw[eP,eT]
    exact lF Tryz.func160 [] (Fh 42 [.br false] (Fh 45 [.lent (int ((w.pickT t).next 2)) [((w.pickT t).step 2).b]] (Fh 59 [.el (w.heap.pages.getD (ofA w.heap.conf (w.pick t)).fst.toNat default).dv] (Fh 65 [.el (w.heap.pages.getD (ofA w.heap.conf (w.pick t)).fst.toNat default).dv] (Fh 76 [.int (w.heap.conf.pg/4)] (Fh 55 [.br true] (Fh 82 [.el (w.heap.pages.getD (ofA w.heap.conf (w.pick t)).fst.toNat default).dv] (Fp 12 (@Z1K w t ‹_› ‹_› (by omega)) (Fc 18 (@Z47 w.heap.conf (w.pick t) (by omega) (by omega)) (Ffb 23 ((ofA w.heap.conf (w.pick t)).snd.snd != 0) (Fs 25 (List.map Page.dv []) (Fa (by(simp[*];omega):(List.map Page.dv []).length+(List.map Page.dv w.heap.pages).length≤2^30) (Fs 29 (List.map Page.dv w.heap.pages) (Fm 41 Page.dv w.heap.pages ((ofA w.heap.conf (w.pick t)).fst) ((ofA w.heap.conf (w.pick t)).fst.toNat) (Fb (decide (0<(w.heap.pages.getD (ofA w.heap.conf (w.pick t)).fst.toNat default).pins)=false) (Fa (by exact Z1e (by omega):(List.map Page.dv w.heap.pages)[(ofA w.heap.conf (w.pick t)).fst.toNat]? = some (w.heap.pages.getD (ofA w.heap.conf (w.pick t)).fst.toNat default).dv) (Fa (by intro hg;(try simp only[bs]at hg);exact Z1e (by omega):(!decide (0<(w.heap.pages.getD (ofA w.heap.conf (w.pick t)).fst.toNat default).pins))=true→(List.map Page.dv w.heap.pages)[(ofA w.heap.conf (w.pick t)).fst.toNat]? = some (w.heap.pages.getD (ofA w.heap.conf (w.pick t)).fst.toNat default).dv) (FcG 71 (!(decide (0<(w.heap.pages.getD (ofA w.heap.conf (w.pick t)).fst.toNat default).pins)||(w.heap.pages.getD (ofA w.heap.conf (w.pick t)).fst.toNat default).kind==2)) (fun hg=>by(try simp only[bs]at hg);exact @Z81 w.heap (by(try simp only[bs]at hg);omega)) (Fa (by intro hg;(try simp only[bs]at hg);rw[Int.tdiv_eq_ediv_of_nonneg (by omega),wrapI' (by omega) (by omega)]:(!(decide (0<(w.heap.pages.getD (ofA w.heap.conf (w.pick t)).fst.toNat default).pins)||(w.heap.pages.getD (ofA w.heap.conf (w.pick t)).fst.toNat default).kind==2))=true→IntKind.i64.wrap (w.heap.conf.pg.tdiv 4)=w.heap.conf.pg/4) (Fa (by intro hg;(try simp only[bs]at hg);omega:(!(decide (0<(w.heap.pages.getD (ofA w.heap.conf (w.pick t)).fst.toNat default).pins)||(w.heap.pages.getD (ofA w.heap.conf (w.pick t)).fst.toNat default).kind==2))=true→(4:Int)=0→False) (Fb ((decide (0<(w.heap.pages.getD (ofA w.heap.conf (w.pick t)).fst.toNat default).pins)||(w.heap.pages.getD (ofA w.heap.conf (w.pick t)).fst.toNat default).kind==2||decide ((↑(crowd w.heap.pages):Int)<w.heap.conf.pg/4))=true) (Fa (by exact Z1e (by omega):(List.map Page.dv w.heap.pages)[(ofA w.heap.conf (w.pick t)).fst.toNat]? = some (w.heap.pages.getD (ofA w.heap.conf (w.pick t)).fst.toNat default).dv) (Fi 83 ((w.heap.pages.getD (ofA w.heap.conf (w.pick t)).fst.toNat default).pins+1) (Fa (by exact Z1e (by omega):(List.map Page.dv w.heap.pages)[(ofA w.heap.conf (w.pick t)).fst.toNat]? = some (w.heap.pages.getD (ofA w.heap.conf (w.pick t)).fst.toNat default).dv) (FS 10085 Page.dv w.heap.pages ((ofA w.heap.conf (w.pick t)).fst.toNat) (Page.mk (w.heap.pages.getD (ofA w.heap.conf (w.pick t)).fst.toNat default).kind (w.heap.pages.getD (ofA w.heap.conf (w.pick t)).fst.toNat default).space (w.heap.pages.getD (ofA w.heap.conf (w.pick t)).fst.toNat default).used ((w.heap.pages.getD (ofA w.heap.conf (w.pick t)).fst.toNat default).pins+1)) ((w.heap.pages.getD (ofA w.heap.conf (w.pick t)).fst.toNat default).dv) Fz)))))))))))))))))))))))))
   ·have eP:w.pin t=w:=by rw[WorldM.pin,if_pos e,if_neg (fun q=>c1 q.1),if_neg (fun q=>q.elim c1 c3)]
    rw[eP,eT]
    exact lF Tryz.func160 [] (Fh 42 [.br false] (Fh 45 [.lent (int ((w.pickT t).next 2)) [((w.pickT t).step 2).b]] (Fh 59 [.el (w.heap.pages.getD (ofA w.heap.conf (w.pick t)).fst.toNat default).dv] (Fh 65 [.el (w.heap.pages.getD (ofA w.heap.conf (w.pick t)).fst.toNat default).dv] (Fh 76 [.int (w.heap.conf.pg/4)] (Fh 55 [.br false] (Fp 12 (@Z1K w t ‹_› ‹_› (by omega)) (Fc 18 (@Z47 w.heap.conf (w.pick t) (by omega) (by omega)) (Ffb 23 ((ofA w.heap.conf (w.pick t)).snd.snd != 0) (Fs 25 (List.map Page.dv []) (Fa (by(simp[*];omega):(List.map Page.dv []).length+(List.map Page.dv w.heap.pages).length≤2^30) (Fs 29 (List.map Page.dv w.heap.pages) (Fm 41 Page.dv w.heap.pages ((ofA w.heap.conf (w.pick t)).fst) ((ofA w.heap.conf (w.pick t)).fst.toNat) (Fb (decide (0<(w.heap.pages.getD (ofA w.heap.conf (w.pick t)).fst.toNat default).pins)=false) (Fa (by exact Z1e (by omega):(List.map Page.dv w.heap.pages)[(ofA w.heap.conf (w.pick t)).fst.toNat]? = some (w.heap.pages.getD (ofA w.heap.conf (w.pick t)).fst.toNat default).dv) (Fa (by intro hg;(try simp only[bs]at hg);exact Z1e (by omega):(!decide (0<(w.heap.pages.getD (ofA w.heap.conf (w.pick t)).fst.toNat default).pins))=true→(List.map Page.dv w.heap.pages)[(ofA w.heap.conf (w.pick t)).fst.toNat]? = some (w.heap.pages.getD (ofA w.heap.conf (w.pick t)).fst.toNat default).dv) (FcG 71 (!(decide (0<(w.heap.pages.getD (ofA w.heap.conf (w.pick t)).fst.toNat default).pins)||(w.heap.pages.getD (ofA w.heap.conf (w.pick t)).fst.toNat default).kind==2)) (fun hg=>by(try simp only[bs]at hg);exact @Z81 w.heap (by(try simp only[bs]at hg);omega)) (Fa (by intro hg;(try simp only[bs]at hg);rw[Int.tdiv_eq_ediv_of_nonneg (by omega),wrapI' (by omega) (by omega)]:(!(decide (0<(w.heap.pages.getD (ofA w.heap.conf (w.pick t)).fst.toNat default).pins)||(w.heap.pages.getD (ofA w.heap.conf (w.pick t)).fst.toNat default).kind==2))=true→IntKind.i64.wrap (w.heap.conf.pg.tdiv 4)=w.heap.conf.pg/4) (Fa (by intro hg;(try simp only[bs]at hg);omega:(!(decide (0<(w.heap.pages.getD (ofA w.heap.conf (w.pick t)).fst.toNat default).pins)||(w.heap.pages.getD (ofA w.heap.conf (w.pick t)).fst.toNat default).kind==2))=true→(4:Int)=0→False) (Fb ((decide (0<(w.heap.pages.getD (ofA w.heap.conf (w.pick t)).fst.toNat default).pins)||(w.heap.pages.getD (ofA w.heap.conf (w.pick t)).fst.toNat default).kind==2||decide ((↑(crowd w.heap.pages):Int)<w.heap.conf.pg/4))=false) Fz))))))))))))))))))))
 ·have eP:w.pin t=w:=by rw[WorldM.pin,if_neg e]
  have eT:w.pinT t=w.pickT t:=by rw[WorldM.pinT,if_neg (fun q=>e q.1)]
  rw[eP,eT]
  exact lF Tryz.func160 [] (Fp 12 (@Z1K w t ‹_› ‹_› (by omega)) (Fc 18 (@Z47 w.heap.conf (w.pick t) (by omega) (by omega)) (Ftb 23 ((ofA w.heap.conf (w.pick t)).snd.snd != 0) Fz)))
theorem Z6A(h:Heap)(s k:List Int)(hw:WOk h.words)(hs:s.length≤1048575)(hk:k.length≤1048575)(hs2:ULe s)(hk2:ULe k):GSpec Tryz.prog 69 [h.av,Z01 s,Z01 k] false (.tu [(Z0m h s k).1.av,Z01 (Z0m h s k).2.1,Z01 (Z0m h s k).2.2.1,.ag (Z0m h s k).2.2.2.1.cells,int (Z0m h s k).2.2.2.2]) []:=by
 unfold Z0m
 by_cases hp:Z02 h=true
 ·rw[if_pos hp]
  by_cases hr:Z0c h s=true∧Z0c h k=true
  ·rw[if_pos hr]
   by_cases e:(rootsF (beginW h) s).2.2=0
   ·rw[if_pos e]
    by_cases e2:(allF (rootsF (beginW h) s).1).2=0
    ·rw[if_pos e2]
     exact Zkb h s k hw hs hk hs2 hk2 hp hr.1 hr.2 e e2
    ·rw[if_neg e2]
     exact Zik h s k hw hs hk hs2 hk2 hp hr.1 hr.2 e e2
   ·rw[if_neg e]
    exact ZiK h s k hw hs hk hs2 hk2 hp hr.1 hr.2 e
  ·rw[if_neg hr]
   refine Zk0 h s k hw hs hk hs2 hk2 hp ?_
   by_cases q:Z0c h s=true
   ·refine Or.inr ?_
    have:¬ Z0c h k=true:=fun q2=>hr ⟨q,q2⟩
    simpa using this
   ·exact Or.inl (by simpa using q)
 ·rw[if_neg hp]
  exact ZjA h s k hw hs hk hs2 hk2 (by simpa using hp)
def WorldM.collect(w:WorldM):WorldM:=if(Z0m w.heap w.strong w.weak).2.2.2.2=0 then⟨(Z0m w.heap w.strong w.weak).1,(Z0m w.heap w.strong w.weak).2.1,(Z0m w.heap w.strong w.weak).2.2.1⟩else w
theorem ZaT(w:WorldM)(hw:WOk w.heap.words)(hs:w.strong.length≤1048575)(hk:w.weak.length≤1048575)(hs2:ULe w.strong)(hk2:ULe w.weak):GSpec Tryz.prog 162 [w.av] false w.collect.av []:=by
 by_cases e:(Z0m w.heap w.strong w.weak).2.2.2.2=0
 ·have e7:w.collect=⟨(Z0m w.heap w.strong w.weak).1,(Z0m w.heap w.strong w.weak).2.1,(Z0m w.heap w.strong w.weak).2.2.1⟩:=by rw[WorldM.collect,if_pos e]
  rw[e7]
  exact gF [] Tryz.func162 [] (Fc 15 (@Z6A w.heap w.strong w.weak ‹_› ‹_› ‹_› ‹_› ‹_›) (Ftb 22 ((Z0m w.heap w.strong w.weak).snd.snd.snd.snd==0) Fz))
 ·have e7:w.collect=w:=by rw[WorldM.collect,if_neg e]
  rw[e7]
  exact gF [] Tryz.func162 [] (Fc 15 (@Z6A w.heap w.strong w.weak ‹_› ‹_› ‹_› ‹_› ‹_›) (Ffb 22 ((Z0m w.heap w.strong w.weak).snd.snd.snd.snd==0) Fz))
section
variable (P:Work→Prop) (hf:∀ w r,WkOk w→Inv w→P w→(w.fwd r).2.2=0→P (w.fwd r).1)
 (hin:∀ w q j,WkOk w→Inv w→P w→q∈w.queue→0≤j→j<hlA w.heap.words q→(w.fwd (loadA w.heap.words (q+1+j)).1).2.2=0→P (w.in1 (q+1+j))) (hsd:∀ w n,P w→P (Zf2 w n))
include hin in
theorem Zkg{w:Work}(hw:WkOk w)(h:Inv w)(hp:P w){q:Int}(hq:q∈w.queue){l:List Int}(hl:∀ x∈l,0≤x∧x<hlA w.heap.words q):∀ k,k≤l.length→(∀ j,j<k→innE w q l j=0)→P (innN w q l k)
 | 0,_,_=>hp
 | k+1,hk,he=>by
  have ih:=Zkg hw h hp hq hl k (by omega) (fun j hj=>he j (by omega))
  have ok:=(Z4c hw q l k (fun j hj=>he j (by omega))).1
  have iv:=Zaw hw h hq hl k (by omega) (fun j hj=>he j (by omega))
  have hx:=hl _ (getD_mem_iff.2 ⟨k,by omega,rfl⟩)
  exact hin _ q (l.getD k default) ok iv.1 ih (iv.2.q q hq) hx.1 (by rw[iv.2.l q hq];exact hx.2) (he k (by omega))
include hin hsd in
theorem ZhT{w:Work}(hw:WkOk w)(h:Inv w)(hp:P w)(e:(Z0O w).2.2=0):P (Z0O w).1:=by
 by_cases hs:w.scanned<w.queue.length
 ·have hsc:=hw.sc
  have hq:Z3p w∈w.queue:=getD_mem_iff.2 ⟨w.scanned.toNat,by omega,rfl⟩
  unfold Z0O at e ⊢
  rw[if_pos hs]at e ⊢
  cases hb:(List.range (Z24 w).length).find? (fun k=>decide (innE w (Z3p w) (Z24 w) k≠0))with
  | none =>
   have h0:∀ j,j<(Z24 w).length→innE w (Z3p w) (Z24 w) j=0:=fun j hj=>by
    have:=List.find?_eq_none.1 hb j (List.mem_range.2 hj)
    simpa using this
   exact hsd _ _ (Zkg P hin hw h hp hq (l:=Z24 w) (Z6E (hdW w (Z3p w))) (Z24 w).length (Nat.le_refl _) h0)
  | some k =>
   simp only[hb]at e
   have:=(List.find?_range_eq_some.1 hb).1
   simp[e]at this
 ·have e:Z0O w=(w,false,0):=by rw[Z0O,if_neg hs]
  rw[e]
  exact hp
include hin hsd in
theorem ZmU{w:Work}(hw:WkOk w)(h:Inv w)(hp:P w):∀ k,(∀ j,j<k→Z3F w j=false)→P (itW w k)
 | 0,_=>hp
 | k+1,hh=>by
  have ih:=ZmU hw h hp k (fun j hj=>hh j (by omega))
  have ok:=(Z4r hw k (fun j hj=>hh j (by omega))).1
  have iv:=(Z9L hw h k (fun j hj=>hh j (by omega))).1
  have hk:=hh k (by omega)
  simp only[Z3F,decide_eq_false_iff_not,not_or,Decidable.not_not]at hk
  exact ZhT P hin hsd ok iv ih hk.1
include hin hsd in
theorem Zmf{w:Work}(hw:WkOk w)(h:Inv w)(hp:P w)(e:(allF w).2=0):P (allF w).1:=by
 obtain⟨k,hb⟩:=Z5S hw
 obtain⟨h1,h2,h3⟩:=List.find?_range_eq_some.1 hb
 have h0:∀ j,j<k→Z3F w j=false:=fun j hj=>by simpa using h3 j hj
 unfold allF at e ⊢
 rw[hb]at e ⊢
 simp only at e ⊢
 split at e
 ·rename_i c
  rw[if_pos c]
  exact ZhT P hin hsd (Z4r hw k h0).1 (Z9L hw h k h0).1 (ZmU P hin hsd hw h hp k h0) c
 ·rename_i c
  exact absurd e c
include hf in
theorem Zdr{w:Work}{roots:List Int}(hw:WkOk w)(h:Inv w)(hp:P w):∀ k,(∀ j,j<k→Z2x w roots j=0)→P (Z1y w roots k).1
 | 0,_=>hp
 | k+1,hh=>by
  have ih:=Zdr hw h hp k (fun j hj=>hh j (by omega))
  have ok:=(Z36 (roots:=roots) hw k (fun j hj=>hh j (by omega))).1
  have iv:=(Z6m (roots:=roots) hw h k (fun j hj=>hh j (by omega))).1
  exact hf _ _ ok iv ih (hh k (by omega))
include hf in
theorem Zjf{w:Work}{roots:List Int}(hw:WkOk w)(h:Inv w)(hp:P w)(e:(rootsF w roots).2.2=0):P (rootsF w roots).1:=by
 unfold rootsF at e ⊢
 cases hb:(List.range roots.length).find? (fun k=>decide (Z2x w roots k≠0))with
 | none =>
  have h0:∀ j,j<roots.length→Z2x w roots j=0:=fun j hj=>by
   have:=List.find?_eq_none.1 hb j (List.mem_range.2 hj)
   simpa using this
  exact Zdr P hf hw h hp roots.length h0
 | some k =>
  simp only[hb]at e
  have:=(List.find?_range_eq_some.1 hb).1
  simp[e]at this
include hf hin hsd in
theorem Znl{h:Heap}{s:List Int}(hw:WOk h.words)(hp:Z02 h=true)(h0:P (beginW h))(e:(rootsF (beginW h) s).2.2=0)(e2:(allF (rootsF (beginW h) s).1).2=0):P (cW2 h s):=by
 have hb:=Z52 hw hp
 have hi:=Z4G hp
 have ho:=Z4f (roots:=s) hb hi e
 exact Zmf P hin hsd ho.1 ho.2.1 (Zjf P hf hb hi h0 e) e2
end
theorem ZhK{l:List Page}{i k:Nat}(h:∀ m,m<k→i+1+m<l.length∧(l.getD (i+1+m) default).kind=3):k≤Z0C l i:=by
 by_cases hc:k≤Z0C l i
 ·exact hc
 ·have h1:=h (Z0C l i) (by omega)
  exact absurd h1.2 (ZdI h1.1)
theorem PT.flip{c:Conf}{l:List Page}(h:PT c l){i:Nat}(hi:i<l.length)(hk:(l.getD i default).kind=2){s:Int}(hs:0≤s∧s≤1):PT c (Z0K l i (Z0C l i) s):=by
 have hr:∀ j,i<j→j≤i+Z0C l i→(l.getD j default).kind=3:=fun j h1 h2=>by
  have:=(ZcN (l:=l) (i:=i) (m:=j-i-1) (by omega)).2
  rwa [show i+1+(j-i-1)=j by omega]at this
 have hg:∀ j,j<l.length→((Z0K l i (Z0C l i) s).getD j default).kind=(l.getD j default).kind∧((Z0K l i (Z0C l i) s).getD j default).used=(l.getD j default).used∧((Z0K l i (Z0C l i) s).getD j default).pins=(l.getD j default).pins:=fun j hj=>by
  rw[Z2u hj]
  split
  ·exact⟨rfl,rfl,rfl⟩
  ·exact⟨rfl,rfl,rfl⟩
 refine⟨?_, ?_, ?_⟩
 ·intro j hj
  rw[Z20]at hj
  have b:=h.b j hj
  rw[Z2u hj]
  split
  ·rename_i hc
   refine⟨hs,b.n,b.k,fun q=>?_,b.k1,b.k3⟩
   exfalso
   have q':(l.getD j default).kind=0:=q
   by_cases hij:j=i
   ·subst hij;omega
   ·have:=hr j (by omega) hc.2;omega
  ·exact b
 ·intro j hj hk2
  rw[Z20]at hj ⊢
  rw[(hg j hj).1]at hk2
  rw[(hg j hj).2.1]
  have q:=h.lg j hj hk2
  refine⟨q.1,fun m h1 h2=>?_⟩
  have r:=q.2 m h1 h2
  refine⟨r.1,by rw[(hg _ r.1).1];exact r.2.1, ?_⟩
  rw[Z2u r.1,Z2u hj]
  by_cases hij:j=i
  ·subst hij
   have hT:(need c (l.getD j default).used-1).toNat≤Z0C l j:=ZhK fun m' hm'=>by
    have:=q.2 (m'+1) (by omega) (by omega)
    rw[show j+1+m'=j+(m'+1) by omega]
    exact⟨this.1,this.2.1⟩
   rw[if_pos (by omega),if_pos (by omega)]
   rfl
  ·have hj1:¬ (i≤j∧j≤i+Z0C l i):=fun hc=>by
    have:=hr j (by omega) hc.2;omega
   have hj2:¬ (i≤j+m∧j+m≤i+Z0C l i):=fun hc=>by
    by_cases hlt:j<i
    ·by_cases he:j+m=i
     ·have:=r.2.1;rw[he]at this;omega
     ·have:=(q.2 (i-j) (by omega) (by omega)).2.1
      rw[show j+(i-j)=i by omega]at this
      omega
    ·omega
   rw[if_neg hj1,if_neg hj2]
   exact r.2.2
 ·intro j hj hk3
  rw[Z20]at hj
  rw[(hg j hj).1]at hk3
  obtain⟨a,a1,a2,a3⟩:=h.tl j hj hk3
  exact⟨a,a1,by rw[(hg a (by omega)).1];exact a2,by rw[(hg a (by omega)).2.1];exact a3⟩
structure Tab (B:Int) (w:Work):Prop where
 pt:PT w.heap.conf w.heap.pages
 tk:∀ x∈w.taken,(w.heap.pages.getD x.toNat default).space=1-w.heap.space
 pin:∀ p∈w.heap.pages,p.pins≤B
theorem Tab.withWords{B:Int}{w:Work}(h:Tab B w)(l:List Int):Tab B ⟨⟨w.heap.conf,l,w.heap.pages,w.heap.space,w.heap.bump⟩,w.old,w.taken,w.queue,w.scanned,w.rep⟩:=⟨h.pt,h.tk,h.pin⟩
theorem Tab.place{B:Int}(hB:0≤B){w:Work}(hw:WkOk w)(h:Tab B w){n:Int}(hn:1≤n∧n≤w.heap.conf.pw)(hc:(w.place n).2.2=true):PT (w.place n).1.heap.conf (w.place n).1.heap.pages∧(∀ x∈(w.place n).1.taken,((w.place n).1.heap.pages.getD x.toNat default).space=1-(w.place n).1.heap.space)∧∀ p∈(w.place n).1.heap.pages,p.pins≤B:=by
 have hsp:=hw.sp
 by_cases hf:Z6h w n
 ·have e:w.place n=(⟨⟨w.heap.conf,w.heap.words,Z2z w.heap.pages (Z1a w).toNat n,w.heap.space,w.heap.bump⟩,w.old,w.taken,w.queue,w.scanned,w.rep⟩,4096+Z1a w*w.heap.conf.pw+(w.heap.pages.getD (Z1a w).toNat default).used,true):=by rw[Work.place,if_pos hf]
  unfold Z6h at hf
  have hm:=hw.tk _ (Z21 hf.1)
  have hi:(Z1a w).toNat<w.heap.pages.length:=by omega
  have ok:=h.pt.b _ hi
  have u:=ok.k1 hm.2.2
  rw[e]
  refine⟨h.pt.setPage hi (Or.inr hm.2.2) ⟨ok.s,ok.n,ok.k,fun q=>by simp only at q;omega,fun _=>by simp only;omega,fun q=>by simp only at q;omega⟩ (Or.inr hm.2.2), ?_, ?_⟩
  ·intro x hx
   simp only
   rw[Z9I,Z1v hi]
   split
   ·rename_i q
    have:=h.tk _ (Z21 hf.1)
    simp only
    omega
   ·exact h.tk x hx
  ·intro p hp
   rcases List.mem_or_eq_of_mem_set hp with hp | rfl
   ·exact h.pin p hp
   ·exact h.pin (w.heap.pages.getD (Z1a w).toNat default) (getD_in hi)
 ·by_cases hg:0≤Z0Q w
  ·have e:w.place n=(⟨⟨w.heap.conf,w.heap.words,Z2z (Z3b w) (Z0Q w).toNat n,w.heap.space,w.heap.bump⟩,w.old,w.taken++[Z0Q w],w.queue,w.scanned,w.rep⟩,4096+Z0Q w*w.heap.conf.pw,true):=by rw[Work.place,if_neg hf,if_pos hg]
   obtain⟨g1,g2,g3⟩:=Z9b (h:=⟨w.heap.conf,w.heap.words,w.heap.pages,1-w.heap.space,w.heap.bump⟩) (by simp only;omega) hg n
   have g1':Z2z (Z3b w) (Z0Q w).toNat n=w.heap.pages.set (Z0Q w).toNat ⟨1,1-w.heap.space,n,0⟩:=g1
   have g2':(w.heap.pages.getD (Z0Q w).toNat default).kind=0:=g2
   have g3':(Z0Q w).toNat<w.heap.pages.length:=g3
   rw[e,g1']
   refine⟨h.pt.setPage g3' (Or.inl g2') ⟨by simp only;omega,by simp,by simp,by simp,fun _=>by simp only;omega,by simp⟩ (Or.inr rfl), ?_, ?_⟩
   ·intro x hx
    simp only at hx ⊢
    rw[Z1v g3']
    split
    ·rfl
    ·rename_i hne
     rcases List.mem_append.1 hx with hx | hx
     ·exact h.tk x hx
     ·simp at hx;subst hx;exact absurd rfl hne
   ·intro p hp
    rcases List.mem_or_eq_of_mem_set hp with hp | rfl
    ·exact h.pin p hp
    ·exact hB
  ·rw[Work.place,if_neg hf,if_neg hg]at hc
   simp at hc
theorem Tab.fwd{B:Int}(hB:0≤B)(w:Work)(r:Int)(hw:WkOk w)(hi:Inv w)(h:Tab B w)(e:(w.fwd r).2.2=0):Tab B (w.fwd r).1:=by
 unfold Work.fwd at e ⊢
 split at e
 ·rename_i c1
  rw[if_pos c1]
  exact h
 ·rename_i c1
  rw[if_neg c1]
  split at e
  ·simp at e
  ·rename_i c2
   rw[if_neg c2]
   have c2':r∈w.old:=Decidable.not_not.1 c2
   split at e
   ·rename_i c3
    rw[if_pos c3]
    exact h
   ·rename_i c3
    rw[if_neg c3]
    split at e
    ·simp at e
    ·rename_i c4
     rw[if_neg c4]
     split at e
     ·rename_i c5
      rw[if_pos c5]
      exact⟨h.pt,h.tk,h.pin⟩
     ·rename_i c5
      rw[if_neg c5]
      split at e
      ·rename_i c6
       rw[if_pos c6]
       have hsp:=hw.sp
       have o:=Z4n hw.conf (Decidable.not_not.1 c4)
       have hpl:=hw.pl
       have hl:Z1f w r<w.heap.pages.length:=by unfold Z1f;omega
       refine⟨h.pt.flip hl c6 (by omega), ?_, ?_⟩
       ·intro x hx
        have t:=hw.tk x hx
        simp only[Work.keep,Work.flip]
        rw[Z2u (by omega)]
        split
        ·rename_i hc
         exfalso
         by_cases hx':x.toNat=Z1f w r
         ·rw[hx']at t;omega
         ·have:=(ZcN (l:=w.heap.pages) (i:=Z1f w r) (m:=x.toNat-Z1f w r-1) (by omega)).2
          rw[show Z1f w r+1+(x.toNat-Z1f w r-1)=x.toNat by omega]at this
          omega
        ·exact h.tk x hx
       ·intro p hp
        simp only[Work.keep,Work.flip,Z0K,List.mem_map,List.mem_range]at hp
        obtain⟨j,hj,rfl⟩:=hp
        split
        ·exact h.pin (w.heap.pages.getD j default) (getD_in hj)
        ·exact h.pin (w.heap.pages.getD j default) (getD_in hj)
      ·rename_i c6
       rw[if_neg c6]
       split at e
       ·simp at e
       ·rename_i c7
        rw[if_neg c7]
        have c7':(w.place (sizeH (hdW w r))).2.2=true:=by simpa using c7
        have hz:=hi.z r c2'
        have hs:=Z5F w r
        have hp:sizeH (hdW w r)≤w.heap.conf.pw:=by
         rw[Z9R]
         rcases hz with hz | hz
         ·exact absurd hz c6
         ·exact hz
        obtain⟨q1,q2,q3⟩:=h.place hB hw ⟨hs.1,hp⟩ c7'
        exact⟨q1,q2,q3⟩
theorem Zhp{B:Int}{h:Heap}(hp:Z02 h=true)(hb:∀ p∈h.pages,p.pins≤B):Tab B (beginW h):=by
 have hp':=hp
 rw[Z26]at hp'
 have hs:=hp'.2.2.2.1
 refine⟨?_,by simp[beginW], ?_⟩
 ·refine hp'.2.2.2.2.2.mapPages _ ?_ ?_ ?_ ?_
  ·intro p hp
   unfold begQ
   split
   ·rename_i hc
    exact⟨by simp only;omega,hp.n,hp.k,fun q=>by simp only at q;omega,hp.k1,fun q=>by simp only at q;omega⟩
   ·exact hp
  ·intro p hp hk
   unfold begQ at hk ⊢
   split at hk
   ·rename_i hc;simp only at hk;omega
   ·rename_i hc;rw[if_neg hc];exact⟨hk,rfl⟩
  ·intro p hp hk
   unfold begQ at hk
   split at hk
   ·rename_i hc;simp only at hk;omega
   ·exact hk
  ·intro p q hp hq h2 h3 he
   have e1:begQ (1-h.space) p=p:=by rw[begQ,if_neg (by omega)]
   have e2:begQ (1-h.space) q=q:=by rw[begQ,if_neg (by omega)]
   rw[e1,e2]
   exact⟨⟨fun _=>h3,fun _=>h2⟩,fun _=>he⟩
 ·intro p hp
  simp only[beginW,List.mem_map]at hp
  obtain⟨q,hq,rfl⟩:=hp
  unfold begQ
  split
  ·exact hb q hq
  ·exact hb q hq
theorem ZkS{B:Int}(hB:0≤B){h:Heap}{s:List Int}(hw:WOk h.words)(hp:Z02 h=true)(hb:∀ p∈h.pages,p.pins≤B)(e:(rootsF (beginW h) s).2.2=0)(e2:(allF (rootsF (beginW h) s).1).2=0):Tab B (cW2 h s) :=
 Znl (Tab B) (fun w r hw hi h e=>h.fwd hB w r hw hi e) (fun w q j hw hi h hq h0 h1 e=>(Tab.fwd hB w _ hw hi h e).withWords _) (fun w n h=>⟨h.pt,h.tk,h.pin⟩) hw hp (Zhp hp hb) e e2
structure MOk (w:WorldM) (n:Nat):Prop where
 words:WOk w.heap.words
 hv:Z05 w.heap.conf=true
 pl:(w.heap.pages.length:Int)=w.heap.conf.pg
 L:(w.heap.words.length:Int)=w.heap.conf.pw*w.heap.conf.pg
 pins:∀ j,j<w.heap.pages.length→0≤(w.heap.pages.getD j default).pins∧(w.heap.pages.getD j default).pins≤n
 us:∀ j,j<w.heap.pages.length→0≤(w.heap.pages.getD j default).used∧(w.heap.pages.getD j default).used≤256
 strong:ULe w.strong
 weak:ULe w.weak
 sl:w.strong.length≤n
 wl:w.weak.length≤n
theorem MOk.wm{w:WorldM}{n:Nat}(h:MOk w n)(hn:n≤1000000):WMok w:=⟨h.words,h.strong,h.weak,Nat.le_trans h.sl (by omega),Nat.le_trans h.wl (by omega)⟩
def WorldM.dup(w:WorldM)(t:Tape):WorldM:=⟨w.heap,w.strong++[w.pick t],w.weak⟩
def WorldM.step(w:WorldM)(t:Tape):WorldM :=
 if t.next 12≤3 then w.put ((t.step 12).header w.heap.conf)
 else if t.next 12≤6 then w.link (t.step 12)
 else if t.next 12≤7 then w.pin (t.step 12)
 else if t.next 12≤9 then w.drop (t.step 12)
 else if t.next 12≤10 then w.collect
 else w.dup (t.step 12)
def WorldM.stepT(w:WorldM)(t:Tape):Tape :=
 if t.next 12≤3 then(t.step 12).headerT w.heap.conf
 else if t.next 12≤6 then w.linkT (t.step 12)
 else if t.next 12≤7 then w.pinT (t.step 12)
 else if t.next 12≤9 then w.dropT (t.step 12)
 else if t.next 12≤10 then t.step 12
 else w.pickT (t.step 12)
theorem Z93(t:Tape)(c:Conf):0≤(t.header c).map∧(t.header c).map≤4294967295:=by
 have h:∀ n:Int,0≤((Z1B t c).step 4).next (2^(min (min n 32) 12).toNat)∧((Z1B t c).step 4).next (2^(min (min n 32) 12).toNat)≤4294967295:=by
  intro n
  have p:=Zl3 (n:=min (min n 32) 12) (by omega)
  have r:=Z0d ((Z1B t c).step 4) (n:=2^(min (min n 32) 12).toNat) p.1
  omega
 unfold Tape.header
 split
 ·simp
 ·split
  ·simp
  ·exact h _
theorem Z0M(t:Tape)(d:Int)(hd:t.next 12=d)(ht:TOk t):LentSpec Tryz.prog 107 [.pt 0 0 0,int 12] [t.b] (int d) [(t.step 12).b]:=by
 rw[← hd]
 exact Z0e t 12 ht (by decide) (by decide)
section
variable (w:WorldM) (t:Tape) (n:Nat) (hm:MOk w n) (hn:n≤1000000) (ht:TOk t) (ha:t.at'≤900000)
include hm hn ht ha
theorem ZgR:LentSpec Tryz.prog 77 [w.av,.pt 0 0 0] [t.b] (w.step t).av [(w.stepT t).b]:=by
 have hw:=hm.wm hn
 have h1:=hm.words
 have h2:=hm.strong
 have h3:=hm.weak
 have h4:=hm.sl
 have h5:=hm.wl
 have s1:=Z0y (t:=t) 12
 have k1:=Z0T ht s1.2.2 (by omega) (by omega)
 have n1:=Z0d t (n:=12) (by decide)
 have hmap:=Z93 (t.step 12) w.heap.conf
 have hv:=hm.hv
 have hpl:=hm.pl
 have hpn:∀ j,j<w.heap.pages.length→-1048576≤(w.heap.pages.getD j default).pins∧(w.heap.pages.getD j default).pins≤4294967296:=fun j hj=>by
  have:=hm.pins j hj;omega
 have hd:t.next 12=0∨t.next 12=1∨t.next 12=2∨t.next 12=3∨t.next 12=4∨t.next 12=5∨t.next 12=6∨t.next 12=7∨t.next 12=8∨t.next 12=9∨t.next 12=10∨t.next 12=11:=by omega
 rcases hd with hd | hd | hd | hd | hd | hd | hd | hd | hd | hd | hd | hd
 ·have e7:w.step t=w.put ((t.step 12).header w.heap.conf):=by simp[WorldM.step,hd]
  have e8:w.stepT t=(t.step 12).headerT w.heap.conf:=by simp[WorldM.stepT,hd]
  rw[e7,e8]
  exact lF Tryz.func77 [] (Fp 6 (@Z0M t (0) ‹_› ‹_›) (Fp 17 (@Z4L (t.step 12) w.heap.conf ‹_› (by omega) ‹_›) (Fc 18 (@Z70 w ((t.step 12).header w.heap.conf) ‹_› ‹_›) Fz)))
 ·have e7:w.step t=w.put ((t.step 12).header w.heap.conf):=by simp[WorldM.step,hd]
  have e8:w.stepT t=(t.step 12).headerT w.heap.conf:=by simp[WorldM.stepT,hd]
  rw[e7,e8]
  exact lF Tryz.func77 [] (Fp 6 (@Z0M t (1) ‹_› ‹_›) (Fp 17 (@Z4L (t.step 12) w.heap.conf ‹_› (by omega) ‹_›) (Fc 18 (@Z70 w ((t.step 12).header w.heap.conf) ‹_› ‹_›) Fz)))
 ·have e7:w.step t=w.put ((t.step 12).header w.heap.conf):=by simp[WorldM.step,hd]
  have e8:w.stepT t=(t.step 12).headerT w.heap.conf:=by simp[WorldM.stepT,hd]
  rw[e7,e8]
  exact lF Tryz.func77 [] (Fp 6 (@Z0M t (2) ‹_› ‹_›) (Fp 17 (@Z4L (t.step 12) w.heap.conf ‹_› (by omega) ‹_›) (Fc 18 (@Z70 w ((t.step 12).header w.heap.conf) ‹_› ‹_›) Fz)))
 ·have e7:w.step t=w.put ((t.step 12).header w.heap.conf):=by simp[WorldM.step,hd]
  have e8:w.stepT t=(t.step 12).headerT w.heap.conf:=by simp[WorldM.stepT,hd]
  rw[e7,e8]
  exact lF Tryz.func77 [] (Fp 6 (@Z0M t (3) ‹_› ‹_›) (Fp 17 (@Z4L (t.step 12) w.heap.conf ‹_› (by omega) ‹_›) (Fc 18 (@Z70 w ((t.step 12).header w.heap.conf) ‹_› ‹_›) Fz)))
 ·have e7:w.step t=w.link (t.step 12):=by simp[WorldM.step,hd]
  have e8:w.stepT t=w.linkT (t.step 12):=by simp[WorldM.stepT,hd]
  rw[e7,e8]
  exact lF Tryz.func77 [] (Fp 6 (@Z0M t (4) ‹_› ‹_›) (Fp 25 (@Z8l w (t.step 12) ‹_› ‹_› (by omega)) Fz))
 ·have e7:w.step t=w.link (t.step 12):=by simp[WorldM.step,hd]
  have e8:w.stepT t=w.linkT (t.step 12):=by simp[WorldM.stepT,hd]
  rw[e7,e8]
  exact lF Tryz.func77 [] (Fp 6 (@Z0M t (5) ‹_› ‹_›) (Fp 25 (@Z8l w (t.step 12) ‹_› ‹_› (by omega)) Fz))
 ·have e7:w.step t=w.link (t.step 12):=by simp[WorldM.step,hd]
  have e8:w.stepT t=w.linkT (t.step 12):=by simp[WorldM.stepT,hd]
  rw[e7,e8]
  exact lF Tryz.func77 [] (Fp 6 (@Z0M t (6) ‹_› ‹_›) (Fp 25 (@Z8l w (t.step 12) ‹_› ‹_› (by omega)) Fz))
 ·have e7:w.step t=w.pin (t.step 12):=by simp[WorldM.step,hd]
  have e8:w.stepT t=w.pinT (t.step 12):=by simp[WorldM.stepT,hd]
  rw[e7,e8]
  exact lF Tryz.func77 [] (Fp 6 (@Z0M t (7) ‹_› ‹_›) (Fp 30 (@Zjr w (t.step 12) ‹_› ‹_› (by omega) ‹_› (by omega) ‹_›) Fz))
 ·have e7:w.step t=w.drop (t.step 12):=by simp[WorldM.step,hd]
  have e8:w.stepT t=w.dropT (t.step 12):=by simp[WorldM.stepT,hd]
  rw[e7,e8]
  exact lF Tryz.func77 [] (Fp 6 (@Z0M t (8) ‹_› ‹_›) (Fp 36 (@ZbM w (t.step 12) ‹_› ‹_› (by omega)) Fz))
 ·have e7:w.step t=w.drop (t.step 12):=by simp[WorldM.step,hd]
  have e8:w.stepT t=w.dropT (t.step 12):=by simp[WorldM.stepT,hd]
  rw[e7,e8]
  exact lF Tryz.func77 [] (Fp 6 (@Z0M t (9) ‹_› ‹_›) (Fp 36 (@ZbM w (t.step 12) ‹_› ‹_› (by omega)) Fz))
 ·have e7:w.step t=w.collect:=by simp[WorldM.step,hd]
  have e8:w.stepT t=t.step 12:=by simp[WorldM.stepT,hd]
  rw[e7,e8]
  exact lF Tryz.func77 [] (Fp 6 (@Z0M t (10) ‹_› ‹_›) (Fc 40 (@ZaT w ‹_› (by omega) (by omega) ‹_› ‹_›) Fz))
 ·have e7:w.step t=w.dup (t.step 12):=by simp[WorldM.step,hd]
  have e8:w.stepT t=w.pickT (t.step 12):=by simp[WorldM.stepT,hd]
  rw[e7,e8]
  exact lF Tryz.func77 [] (Fh 49 [.els (List.map wdv (w.strong++[w.pick (t.step 12)]))] (Fp 6 (@Z0M t (11) ‹_› ‹_›) (Fs 41 (List.map wdv []) (Fa (by(simp[WorldM.dup, *];omega):(List.map wdv []).length+(List.map wdv w.strong).length≤2^30) (Fs 44 (List.map wdv w.strong) (Fp 47 (@Z1K w (t.step 12) ‹_› ‹_› (by omega)) (Fs 48 (List.map wdv [w.pick (t.step 12)]) (Fa (by(simp[WorldM.dup, *];omega):(List.map wdv w.strong).length+(List.map wdv [w.pick (t.step 12)]).length≤2^30) (Fa (by simp[WorldM.dup,List.map_take,List.map_drop,List.map_set,List.map_append,wdv,idv]:List.map wdv w.strong++List.map wdv [w.pick (t.step 12)]=List.map wdv (w.strong++[w.pick (t.step 12)])) Fz)))))))))
end
theorem Z92{pw s:Int}{l:List Page}{ws:List Int}(h:WOk ws):∀ i,WOk (Z2y pw s l ws i)
 | 0=>h
 | i+1=>by
  have ih:=Z92 (pw:=pw) (s:=s) (l:=l) h i
  unfold Z2y
  split
  ·intro x hx
   simp only[spl,List.mem_append,List.mem_replicate]at hx
   rcases hx with(hx | hx) | hx
   ·exact ih x (List.mem_of_mem_take hx)
   ·omega
   ·exact ih x (List.mem_of_mem_drop hx)
  ·exact ih
theorem ZlB{c:Conf}{l:List Page}(h:PT c l)(s:Int):PT c (l.map (Z2l s)):=by
 refine h.mapPages _ ?_ ?_ ?_ ?_
 ·intro p hp
  unfold Z2l
  split
  ·exact⟨by simp,by simp,by simp,by simp,by simp,by simp⟩
  ·exact hp
 ·intro p hp hk
  unfold Z2l at hk ⊢
  split at hk
  ·simp at hk
  ·rename_i hc;rw[if_neg hc];exact⟨hk,rfl⟩
 ·intro p hp hk
  unfold Z2l at hk
  split at hk
  ·simp at hk
  ·exact hk
 ·intro p q hp hq h2 h3 he
  by_cases hg:p.space=s
  ·have e1:Z2l s p=⟨0,0,0,0⟩:=by rw[Z2l,if_pos ⟨by omega,hg⟩]
   have e2:Z2l s q=⟨0,0,0,0⟩:=by rw[Z2l,if_pos ⟨by omega,by omega⟩]
   rw[e1,e2]
   simp
  ·have e1:Z2l s p=p:=by rw[Z2l,if_neg (by unfold Z6r;omega)]
   have e2:Z2l s q=q:=by rw[Z2l,if_neg (by unfold Z6r;omega)]
   rw[e1,e2]
   exact⟨⟨fun _=>h3,fun _=>h2⟩,fun _=>he⟩
theorem Z7Q{w:Work}(hw:WkOk w)(k:List Int):∀ i,∀ x∈Z3Y w k i,0≤x∧x≤4294967296
 | 0,x,hx=>by simp[Z3Y]at hx
 | i+1,x,hx=>by
  simp only[Z3Y,List.mem_append,List.mem_singleton]at hx
  rcases hx with hx | rfl
  ·exact Z7Q hw k i x hx
  ·have h:=Z75 w k i
   unfold Z8n
   split
   ·omega
   ·unfold Z1t
    rw[h.2.2.2.1,h.1]
    split
    ·rename_i hq
     have:=hw.q _ hq
     omega
    ·have:=Z5X (Z0L hw.words (k.getD i default)).1
     omega
structure ColOk (B:Int) (h:Heap) (s k:List Int):Prop where
 p0:Z02 h=true
 p1:Z02 (Z0m h s k).1=true
 w:WOk (Z0m h s k).1.words
 n:∀ p∈(Z0m h s k).1.pages,p.pins≤B
 c:(Z0m h s k).1.conf=h.conf
 r:∀ x∈(Z0m h s k).2.1,0≤x∧x≤4294967296
 rl:(Z0m h s k).2.1.length=s.length
 v:∀ x∈(Z0m h s k).2.2.1,0≤x∧x≤4294967296
 vl:(Z0m h s k).2.2.1.length=k.length
theorem ZfI{B:Int}(hB:0≤B){h:Heap}{s k:List Int}(hw:WOk h.words)(hb:∀ p∈h.pages,p.pins≤B)(e:(Z0m h s k).2.2.2.2=0):ColOk B h s k:=by
 by_cases hp:Z02 h=true
 ·by_cases hr:Z0c h s=true∧Z0c h k=true
  ·by_cases e1:(rootsF (beginW h) s).2.2=0
   ·by_cases e2:(allF (rootsF (beginW h) s).1).2=0
    ·have e7:Z0m h s k=(endH (cW5 h s k),(rootsF (beginW h) s).2.1,Z3Y (cW2 h s) k k.length,(cW5 h s k).rep,0):=by rw[Z0m,if_pos hp,if_pos hr,if_pos e1,if_pos e2]
     have ho:=Z4f (roots:=s) (Z52 hw hp) (Z4G hp) e1
     have c:=cOk h s k hw hp e1 e2
     have c5:=cOk5 h s k hw hp e1 e2
     have tb:=ZkS hB hw hp hb e1 e2
     obtain⟨g1,g2,g3,g4,g5⟩:=c.h4
     have hsp:=c.w2.sp
     have hc2:(cW2 h s).heap.conf=h.conf:=c.x2.c
     have hpl:=c.w2.pl
     rw[hc2]at hpl
     have hL:=c.i4.L
     rw[g1]at hL
     have hfl:=Z4R (s:=(cW4 h s k).heap.space) c5.2.2.2.1 (cW4 h s k).heap.pages.length (Nat.le_refl _)
     refine⟨hp, ?_, ?_, ?_, ?_, ?_, ?_, ?_, ?_⟩
     ·rw[e7,Z26]
      simp only[endH,cW5,Z15,g1,g2,g3,g4]
      have hptf:=ZlB (s:=(cW2 h s).heap.space) tb.pt
      rw[hc2]at hptf
      refine⟨(Z09 hp).1, ?_,by simp only[List.length_map];exact hpl,by omega, ?_,hptf⟩
      ·rw[g1,g2,g3]at hfl
       rw[hfl]
       exact hL
      ·split
       ·rename_i ht
        have hm:=Z21 (w:=cW2 h s) ht
        have t1:=c.w2.tk _ hm
        have t2:=tb.tk _ hm
        refine Or.inr ⟨t1.1,by simp only[List.length_map];exact t1.2.1, ?_⟩
        have hx:(List.map (Z2l (cW2 h s).heap.space) (cW2 h s).heap.pages).getD (Z1a (cW2 h s)).toNat default=(cW2 h s).heap.pages.getD (Z1a (cW2 h s)).toNat default:=by
         have hi:(Z1a (cW2 h s)).toNat<(cW2 h s).heap.pages.length:=by omega
         have:(List.map (Z2l (cW2 h s).heap.space) (cW2 h s).heap.pages).getD (Z1a (cW2 h s)).toNat default=Z2l (cW2 h s).heap.space ((cW2 h s).heap.pages.getD (Z1a (cW2 h s)).toNat default):=by simp[List.getD_eq_getElem?_getD,hi]
         rw[this,Z2l,if_neg (by unfold Z6r;omega)]
        show((List.map (Z2l (cW2 h s).heap.space) (cW2 h s).heap.pages).getD (Z1a (cW2 h s)).toNat default).kind=1
        rw[hx]
        exact t1.2.2
       ·exact Or.inl rfl
     ·rw[e7]
      exact Z92 c.f4.words _
     ·rw[e7]
      intro p hp'
      simp only[endH,cW5,Z15,g2,List.mem_map]at hp'
      obtain⟨q,hq,rfl⟩:=hp'
      unfold Z2l
      split
      ·exact hB
      ·exact tb.pin q hq
     ·rw[e7]
      exact g1
     ·rw[e7]
      exact ho.2.2.2.1
     ·rw[e7]
      exact ho.2.2.2.2
     ·rw[e7]
      exact Z7Q c.w2 k _
     ·rw[e7]
      exact Z7O _ _ _
    ·rw[Z0m,if_pos hp,if_pos hr,if_pos e1,if_neg e2]at e
     exact absurd e e2
   ·rw[Z0m,if_pos hp,if_pos hr,if_neg e1]at e
    exact absurd e e1
  ·rw[Z0m,if_pos hp,if_neg hr]at e
   simp at e
 ·rw[Z0m,if_neg hp]at e
  simp at e
theorem ZcD{h:Heap}(hp:Z02 h=true):∀ p∈h.pages,0≤p.pins:=by
 rw[Z26]at hp
 intro p hp'
 obtain⟨i,hi,e⟩:=List.mem_iff_getElem.1 hp'
 have:=(hp.2.2.2.2.2.b i hi).n.1
 rwa [show h.pages.getD i default=p by rw[List.getD_eq_getElem?_getD,List.getElem?_eq_getElem hi,e];rfl]at this
theorem MOk.of_proper{w:WorldM}{n:Nat}(hp:Z02 w.heap=true)(hw:WOk w.heap.words)(hn:∀ p∈w.heap.pages,p.pins≤n)(h1:ULe w.strong)(h2:ULe w.weak)(h3:w.strong.length≤n)(h4:w.weak.length≤n):MOk w n:=by
 have po:=Z09 hp
 exact⟨hw,po.1,po.2.2.2.2.2.2.2.1,po.2.2.2.2.2.1,fun j hj=>⟨ZcD hp _ (getD_in hj),hn _ (getD_in hj)⟩,fun j hj=>by have:=Z1l hp hj;omega,h1,h2,h3,h4⟩
theorem MOk.pin_mem{w:WorldM}{n:Nat}(h:MOk w n):∀ p∈w.heap.pages,0≤p.pins∧p.pins≤n:=by
 intro p hp
 obtain⟨i,hi,e⟩:=List.mem_iff_getElem.1 hp
 have:=h.pins i hi
 rwa [show w.heap.pages.getD i default=p by rw[List.getD_eq_getElem?_getD,List.getElem?_eq_getElem hi,e];rfl]at this
theorem MOk.mono{w:WorldM}{n:Nat}(h:MOk w n):MOk w (n+1) :=
 ⟨h.words,h.hv,h.pl,h.L,fun j hj=>by have:=h.pins j hj;omega,h.us,h.strong,h.weak,by have:=h.sl;omega,by have:=h.wl;omega⟩
theorem Zcr{l:List Int}(h:ULe l){x:Int}(hx:0≤x∧x≤18446744073709551615):ULe (l++[x]):=by
 intro y hy
 simp only[List.mem_append,List.mem_singleton]at hy
 rcases hy with hy | rfl
 ·exact h y hy
 ·exact hx
theorem MOk.put{w:WorldM}{n:Nat}(h:MOk w n){hd:Header}(hm:0≤hd.map∧hd.map≤4294967295):MOk (w.put hd) (n+1):=by
 unfold WorldM.put
 split
 ·rename_i e
  obtain⟨k1,k2,k3,k4,k5,k6,k7,k8⟩:=ZlP h.words hm e
  have po:=Z09 k1
  have hl:=h.sl
  have hl2:=h.wl
  have z:=(Zap k2).2.1
  have a1:=k3.lo
  have a2:=k3.hi
  refine MOk.of_proper k7 k8 ?_ (Zcr h.strong (by rw[k5];omega)) h.weak (by simp;omega) (by simp only;omega)
  intro p hp
  simp only at hp
  rw[k6]at hp
  simp only at hp
  rcases k3.pin p hp with q | ⟨q,q1,q2⟩
  ·omega
  ·have:=h.pin_mem q q1;omega
 ·exact h.mono
theorem MOk.link{w:WorldM}{n:Nat}(h:MOk w n)(hn:n≤1000000)(t:Tape):MOk (w.link t) (n+1):=by
 unfold WorldM.link
 split
 ·rename_i hc
  have g:=Z4w hc.1
  have hw:=h.wm hn
  have hlen:1≤(getH w.heap (w.pick t)).1.length:=by omega
  have n1:=Z0d (w.pickT (w.pickT t)) (n:=8) (by decide)
  have hi:0≤Z1T w t∧Z1T w t<(getH w.heap (w.pick t)).1.length:=by
   unfold Z1T
   rw[Int.tmod_eq_emod_of_nonneg n1.1]
   exact⟨Int.emod_nonneg _ (by omega),Int.emod_lt_of_pos _ (by omega)⟩
  have hv:0≤Z22 w t∧Z22 w t≤18446744073709551615:=by
   unfold Z22
   split
   ·exact Z3z hw _
   ·have:=Z0d ((w.pickT (w.pickT t)).step 8) (n:=1048576) (by decide)
    omega
  obtain⟨s1,s2,s3⟩:=ZcK h.words hv hc.1 hi
  have hl:=h.sl
  have hl2:=h.wl
  refine MOk.of_proper s2 s3 ?_ h.strong h.weak (by simp only;omega) (by simp only;omega)
  intro p hp
  simp only at hp
  rw[s1]at hp
  have:=h.pin_mem p hp
  omega
 ·exact h.mono
theorem ZhQ{w:WorldM}{n:Nat}(h:MOk w n){i:Nat}(hi:i<w.heap.pages.length){d:Int}(hd:d=1∨(d=-1∧0<(w.heap.pages.getD i default).pins)):MOk (pinB w i d) (n+1):=by
 have hp:=h.pins i hi
 refine⟨h.words,h.hv, ?_,h.L, ?_, ?_,h.strong,h.weak,by have:=h.sl;simp only[pinB];omega,by have:=h.wl;simp only[pinB];omega⟩
 ·simp only[pinB,List.length_set];exact h.pl
 ·intro j hj
  simp only[pinB,List.length_set]at hj ⊢
  rw[Z1v hi]
  split
  ·simp only;omega
  ·have:=h.pins j hj;omega
 ·intro j hj
  simp only[pinB,List.length_set]at hj ⊢
  rw[Z1v hi]
  split
  ·exact h.us i hi
  ·exact h.us j hj
theorem MOk.pin{w:WorldM}{n:Nat}(h:MOk w n)(t:Tape):MOk (w.pin t) (n+1):=by
 unfold WorldM.pin
 split
 ·rename_i e
  have o:=Z4n h.hv e
  have hpl:=h.pl
  have hi:pinI w t<w.heap.pages.length:=by unfold pinI;omega
  split
  ·rename_i hc
   exact ZhQ h hi (Or.inr ⟨rfl,hc.1⟩)
  ·split
   ·exact ZhQ h hi (Or.inl rfl)
   ·exact h.mono
 ·exact h.mono
theorem MOk.drop{w:WorldM}{n:Nat}(h:MOk w n)(t:Tape):MOk (w.drop t) (n+1):=by
 unfold WorldM.drop
 split
 ·have hl:=h.sl
  have hl2:=h.wl
  refine⟨h.words,h.hv,h.pl,h.L,fun j hj=>by have:=h.pins j hj;simp only;omega,h.us, ?_, ?_, ?_, ?_⟩
  ·intro x hx
   rcases List.mem_append.1 hx with hx | hx
   ·exact h.strong x (List.mem_of_mem_take hx)
   ·exact h.strong x (List.mem_of_mem_drop hx)
  ·simp only
   split
   ·exact Zcr h.weak (Z3L h.strong _)
   ·exact h.weak
  ·simp only[List.length_append,List.length_take,List.length_drop];omega
  ·simp only
   split
   ·simp;omega
   ·omega
 ·exact h.mono
theorem MOk.collect{w:WorldM}{n:Nat}(h:MOk w n):MOk w.collect (n+1):=by
 unfold WorldM.collect
 split
 ·rename_i e
  have c:=ZfI (B:=n) (by omega) h.words (fun p hp=>(h.pin_mem p hp).2) e
  have hl:=h.sl
  have hl2:=h.wl
  refine MOk.of_proper c.p1 c.w (fun p hp=>by have:=c.n p hp;omega) (fun x hx=>by have:=c.r x hx;omega) (fun x hx=>by have:=c.v x hx;omega) (by simp only[c.rl];omega) (by simp only[c.vl];omega)
 ·exact h.mono
theorem MOk.step{w:WorldM}{n:Nat}(h:MOk w n)(hn:n≤1000000)(t:Tape):MOk (w.step t) (n+1):=by
 unfold WorldM.step
 repeat' split
 ·exact h.put (Z93 _ _)
 ·exact h.link hn _
 ·exact h.pin _
 ·exact h.drop _
 ·exact h.collect
 ·have hl:=h.sl
  have hl2:=h.wl
  exact⟨h.words,h.hv,h.pl,h.L,fun j hj=>by have:=h.pins j hj;simp only[WorldM.dup]at *;omega,h.us,Zcr h.strong (Z3z (h.wm hn) _),h.weak,by simp only[WorldM.dup,List.length_append,List.length_singleton];omega,by simp only[WorldM.dup];omega⟩
theorem Z7S(h:Heap):GSpec Tryz.prog 41 [h.av] true (bool (decide (h.words.length≤5000∧h.pages.length≤100))) []:=by
 exact gF [] Tryz.func41 [false,false,false,false,true] (Fl 5 wdv h.words (FlG 10 (decide ((↑h.words.length:Int)≤5000)) Page.dv h.pages (Fa (by grind[]:(decide ((↑h.words.length:Int)≤5000)&&decide ((↑h.pages.length:Int)≤100))=decide (h.words.length≤5000∧h.pages.length≤100)) Fz)))
theorem Z6L(w:WorldM)(t:Tape)(n:Nat)(hm:MOk w n)(hn:n≤1000000)(ht:TOk t)(ha:t.at'≤900000):LentSpec Tryz.prog 77 [w.av,.pt 0 0 0] [t.b] (w.step t).av [(w.stepT t).b] :=
 ZgR w t n hm hn ht ha
structure TUp (n:Int) (t u:Tape):Prop where
 l:u.l=t.l
 lo:t.at'≤u.at'
 hi:u.at'≤t.at'+n
theorem TUp.step(t:Tape)(n:Int):TUp 1 t (t.step n):=by
 have:=Z0y (t:=t) n
 exact⟨this.2.2,this.1,this.2.1⟩
theorem TUp.trans{m n:Int}{t u v:Tape}(h1:TUp m t u)(h2:TUp n u v):TUp (m+n) t v :=
 ⟨h2.l.trans h1.l,by have:=h1.lo;have:=h2.lo;omega,by have:=h1.hi;have:=h2.hi;omega⟩
theorem TUp.mono{m n:Int}{t u:Tape}(h:TUp m t u)(hmn:m≤n):TUp n t u:=⟨h.l,h.lo,by have:=h.hi;omega⟩
theorem ZfJ(t:Tape)(c:Conf):TUp 10 t (t.headerT c):=by
 have h1:TUp 4 t (Z1B t c):=by
  unfold Z1B
  split
  ·exact(((TUp.step t _).trans (TUp.step _ 12)).trans (TUp.step _ _)).mono (by decide)
  ·exact((TUp.step t _).trans (TUp.step _ 12)).mono (by decide)
 unfold Tape.headerT
 repeat' split
 ·exact(h1.trans (TUp.step _ 4)).mono (by decide)
 ·exact(h1.trans (TUp.step _ 4)).mono (by decide)
 ·exact((h1.trans (TUp.step _ 4)).trans (TUp.step _ _)).mono (by decide)
theorem Zjc(w:WorldM)(t:Tape):TUp 10 t (w.linkT t):=by
 have h1:TUp 1 t (w.pickT t):=TUp.step _ _
 have h2:TUp 1 (w.pickT t) (w.pickT (w.pickT t)):=TUp.step _ _
 unfold WorldM.linkT
 split
 ·exact((((h1.trans h2).trans (TUp.step _ 8))).trans (TUp.step _ _)).mono (by decide)
 ·exact((h1.trans h2).trans (TUp.step _ 8)).mono (by decide)
theorem ZjR(w:WorldM)(t:Tape):(w.stepT t).l=t.l∧t.at'+1≤(w.stepT t).at'∧(w.stepT t).at'≤t.at'+20:=by
 have h0:(t.step 12).at'=t.at'+1∧(t.step 12).l=t.l:=by simp[Tape.step]
 have key:TUp 10 (t.step 12) (w.stepT t):=by
  unfold WorldM.stepT
  repeat' split
  ·exact ZfJ _ _
  ·exact Zjc _ _
  ·unfold WorldM.pinT
   split
   ·exact((TUp.step _ _).trans (TUp.step _ 2)).mono (by decide)
   ·exact(TUp.step _ _).mono (by decide)
  ·unfold WorldM.dropT
   split
   ·exact((TUp.step _ _).trans (TUp.step _ 3)).mono (by decide)
   ·exact⟨rfl,by omega,by omega⟩
  ·exact⟨rfl,by omega,by omega⟩
  ·exact(TUp.step _ _).mono (by decide)
 have a:=key.l
 have b:=key.lo
 have c:=key.hi
 exact⟨a.trans h0.2,by omega,by omega⟩
def mkS(w:WorldM)(t:Tape):Nat→WorldM×Tape
 | 0=>(w,t)
 | k+1=>((mkS w t k).1.step (mkS w t k).2,(mkS w t k).1.stepT (mkS w t k).2)
def mkB(w:WorldM)(t:Tape)(k:Nat):Bool:=decide (((mkS w t k).2.l.length:Int)≤(mkS w t k).2.at')
def mkN(w:WorldM)(t:Tape):Nat:=((List.range (2+t.l.length)).find? (mkB w t)).getD 0
def ZcI(w:WorldM)(t:Tape):WorldM:=(mkS w t (mkN w t)).1
theorem Zdt(w:WorldM)(t:Tape):∀ k:Nat,(mkS w t k).2.l=t.l∧t.at'+k≤(mkS w t k).2.at'∧(mkS w t k).2.at'≤t.at'+20*k
 | 0=>by simp[mkS]
 | k+1=>by
  have ih:=Zdt w t k
  have:=ZjR (mkS w t k).1 (mkS w t k).2
  refine⟨this.1.trans ih.1, ?_, ?_⟩
  ·simp only[mkS];omega
  ·simp only[mkS];omega
theorem Zer{w:WorldM}{n:Nat}(h:MOk w n)(t:Tape):∀ k,n+k≤1000000→MOk (mkS w t k).1 (n+k)
 | 0,_=>h
 | k+1,hk=>(Zer h t k (by omega)).step (by omega) _
theorem ZgF(w:WorldM)(t:Tape)(ht:0≤t.at'):mkB w t (mkN w t)=true∧(∀ j,j<mkN w t→mkB w t j=false)∧mkN w t≤t.l.length+1:=by
 cases hb:(List.range (2+t.l.length)).find? (mkB w t)with
 | none =>
  exfalso
  have:=List.find?_eq_none.1 hb t.l.length (List.mem_range.2 (by omega))
  have u:=Zdt w t t.l.length
  simp only[mkB,decide_eq_true_eq,u.1]at this
  omega
 | some k =>
  obtain⟨h1,h2,h3⟩:=List.find?_range_eq_some.1 hb
  have h2:=List.mem_range.1 h2
  have e:mkN w t=k:=by rw[mkN,hb];rfl
  rw[e]
  exact⟨h1,fun j hj=>by simpa using h3 j hj,by omega⟩
def mkLA(w:WorldM)(t:Tape):Tg:=⟨tm 22 [(2,.pt 8002 0 0),(3,.pt 32012 0 0),(4,.pt 40004 0 0)],[(40004,.box 30 w.cells),(32012,t.b),(8002,.box 30 [int 0,int 0,.d (.sl 0 []),.d (.sl 0 []),int 0,int 0,.d (.sl 0 []),.d (.sl 0 [])])],60⟩
theorem Zj0(w:WorldM)(t:Tape)(n:Nat)(hm:MOk w n)(hn:n≤1000000)(ht:TOk t)(ha:t.at'≤900000)(hd:t.at'<t.l.length):CSpec Tryz.prog (rndF Tryz.f15 0) (mkLA w t).st .nrm (mkLA (w.step t) (w.stepT t)).st:=by
 exact sF [] [] (Fp 16 (@Z6U t ‹_›) (Ftb 17 (!decide ((↑t.l.length:Int)≤t.at')) (Fp 20 (@Z6L w t n ‹_› ‹_› ‹_› ‹_›) Fz)))
theorem Znd(w:WorldM)(t:Tape)(ht:TOk t)(hd:¬ t.at'<t.l.length):CSpec Tryz.prog (rndF Tryz.f15 0) (mkLA w t).st (.ext 0) (Tg.st ⟨tm 22 [(2,.pt 8002 0 0),(4,.pt 40004 0 0)],[(40004,.box 30 w.cells),(8002,.box 30 [int 0,int 0,.d (.sl 0 []),.d (.sl 0 []),int 0,int 0,.d (.sl 0 []),.d (.sl 0 [])])],60⟩):=by
 exact sF [] [] (Fp 16 (@Z6U t ‹_›) (Ffb 17 (!decide ((↑t.l.length:Int)≤t.at')) Fz))
theorem Zle(w:WorldM)(t:Tape)(hm:MOk w 0)(hl:t.l.length≤300)(h0:0≤t.at')(h1:t.at'≤1000):CSpec Tryz.prog (blkF Tryz.f15 0) (Tg.st ⟨tm 22 [(2,.pt 8002 0 0),(3,.pt 32012 0 0),(4,.pt 40004 0 0)],[(40004,.box 30 w.cells),(32012,t.b),(8002,.box 30 [int 0,int 0,.d (.sl 0 []),.d (.sl 0 []),int 0,int 0,.d (.sl 0 []),.d (.sl 0 [])])],60⟩) .nrm (Tg.st ⟨tm 22 [(2,.pt 8002 0 0),(4,.pt 40004 0 0)],[(40004,.box 30 (ZcI w t).cells),(8002,.box 30 [int 0,int 0,.d (.sl 0 []),.d (.sl 0 []),int 0,int 0,.d (.sl 0 []),.d (.sl 0 [])])],60⟩):=by
 have hk:=ZgF w t h0
 have tok:∀ k,k≤mkN w t→TOk (mkS w t k).2∧(mkS w t k).2.at'≤900000:=fun k hk'=>by
  have u:=Zdt w t k
  refine⟨?_,by omega⟩
  unfold TOk
  rw[u.1]
  omega
 refine Z0b (S:=fun k=>(mkLA (mkS w t k).1 (mkS w t k).2).st) (mkN w t) (by kernel_rfl) (fun k hk'=>?_) ?_
 ·have hs:=hk.2.1 k hk'
  simp only[mkB,decide_eq_false_iff_not]at hs
  have m:=Zer hm t k (by omega)
  exact Zj0 _ _ (0+k) m (by omega) (tok k (by omega)).1 (tok k (by omega)).2 (by omega)
 ·have hs:=hk.1
  simp only[mkB,decide_eq_true_eq]at hs
  exact Znd _ _ (tok _ (Nat.le_refl _)).1 (by omega)
def mkLB(w:WorldM)(t:Tape):Tg:=⟨tm 22 [(2,.pt 8002 0 0),(3,.pt 24012 0 0),(4,.pt 32004 0 0)],[(32004,.box 30 w.cells),(24012,t.b),(8002,.box 30 [int 0,int 0,.d (.sl 0 []),.d (.sl 0 []),int 0,int 0,.d (.sl 0 []),.d (.sl 0 [])])],60⟩
theorem ZiE(w:WorldM)(t:Tape)(n:Nat)(hm:MOk w n)(hn:n≤1000000)(ht:TOk t)(ha:t.at'≤900000)(hd:t.at'<t.l.length):CSpec Tryz.prog (rndF Tryz.f15 0) (mkLB w t).st .nrm (mkLB (w.step t) (w.stepT t)).st:=by
 exact sF [] [] (Fp 16 (@Z6U t ‹_›) (Ftb 17 (!decide ((↑t.l.length:Int)≤t.at')) (Fp 20 (@Z6L w t n ‹_› ‹_› ‹_› ‹_›) Fz)))
theorem Zn0(w:WorldM)(t:Tape)(ht:TOk t)(hd:¬ t.at'<t.l.length):CSpec Tryz.prog (rndF Tryz.f15 0) (mkLB w t).st (.ext 0) (Tg.st ⟨tm 22 [(2,.pt 8002 0 0),(4,.pt 32004 0 0)],[(32004,.box 30 w.cells),(8002,.box 30 [int 0,int 0,.d (.sl 0 []),.d (.sl 0 []),int 0,int 0,.d (.sl 0 []),.d (.sl 0 [])])],60⟩):=by
 exact sF [] [] (Fp 16 (@Z6U t ‹_›) (Ffb 17 (!decide ((↑t.l.length:Int)≤t.at')) Fz))
theorem Zln(w:WorldM)(t:Tape)(hm:MOk w 0)(hl:t.l.length≤300)(h0:0≤t.at')(h1:t.at'≤1000):CSpec Tryz.prog (blkF Tryz.f15 0) (Tg.st ⟨tm 22 [(2,.pt 8002 0 0),(3,.pt 24012 0 0),(4,.pt 32004 0 0)],[(32004,.box 30 w.cells),(24012,t.b),(8002,.box 30 [int 0,int 0,.d (.sl 0 []),.d (.sl 0 []),int 0,int 0,.d (.sl 0 []),.d (.sl 0 [])])],60⟩) .nrm (Tg.st ⟨tm 22 [(2,.pt 8002 0 0),(4,.pt 32004 0 0)],[(32004,.box 30 (ZcI w t).cells),(8002,.box 30 [int 0,int 0,.d (.sl 0 []),.d (.sl 0 []),int 0,int 0,.d (.sl 0 []),.d (.sl 0 [])])],60⟩):=by
 have hk:=ZgF w t h0
 have tok:∀ k,k≤mkN w t→TOk (mkS w t k).2∧(mkS w t k).2.at'≤900000:=fun k hk'=>by
  have u:=Zdt w t k
  refine⟨?_,by omega⟩
  unfold TOk
  rw[u.1]
  omega
 refine Z0b (S:=fun k=>(mkLB (mkS w t k).1 (mkS w t k).2).st) (mkN w t) (by kernel_rfl) (fun k hk'=>?_) ?_
 ·have hs:=hk.2.1 k hk'
  simp only[mkB,decide_eq_false_iff_not]at hs
  have m:=Zer hm t k (by omega)
  exact ZiE _ _ (0+k) m (by omega) (tok k (by omega)).1 (tok k (by omega)).2 (by omega)
 ·have hs:=hk.1
  simp only[mkB,decide_eq_true_eq]at hs
  exact Zn0 _ _ (tok _ (Nat.le_refl _)).1 (by omega)
def Z4k(l:List Int):Tape:=⟨l.take 300,0⟩
def Z1p(l:List Int):WorldM:=ZcI (Z4k l).empty (((Z4k l).step 4).step 5)
theorem Ze9(t:Tape):MOk t.empty 0:=by
 have hv:=Z4p t
 have hb:=validB_iff.1 hv
 refine⟨?_,hv, ?_, ?_, ?_, ?_, ?_, ?_,by simp[Tape.empty],by simp[Tape.empty]⟩
 ·intro x hx
  simp only[Tape.empty,Z3v,List.mem_replicate]at hx
  omega
 ·simp only[Tape.empty,Z3v,List.length_replicate];omega
 ·have:=area hv
  simp only[Tape.empty,Z3v,List.length_replicate];omega
 ·intro j hj
  simp only[Tape.empty,Z3v,List.length_replicate]at hj ⊢
  have:(List.replicate t.conf.pg.toNat (⟨0,0,0,0⟩:Page)).getD j default=⟨0,0,0,0⟩:=by simp[List.getD_eq_getElem?_getD,hj]
  rw[this];simp
 ·intro j hj
  simp only[Tape.empty,Z3v,List.length_replicate]at hj ⊢
  have:(List.replicate t.conf.pg.toNat (⟨0,0,0,0⟩:Page)).getD j default=⟨0,0,0,0⟩:=by simp[List.getD_eq_getElem?_getD,hj]
  rw[this];simp
 ·intro x hx;simp[Tape.empty]at hx
 ·intro x hx;simp[Tape.empty]at hx
theorem Z8Q(l:List Int):(((Z4k l).step 4).step 5).l=l.take 300∧(((Z4k l).step 4).step 5).at'=2:=by simp[Z4k,Tape.step]
theorem Zjw(l:List Int):MOk (Z1p l) 1000:=by
 have e:=Z8Q l
 have hl:(((Z4k l).step 4).step 5).l.length≤300:=by rw[e.1];simp;omega
 have hk:=ZgF (Z4k l).empty (((Z4k l).step 4).step 5) (by omega)
 have m:=Zer (Ze9 (Z4k l)) (((Z4k l).step 4).step 5) (mkN (Z4k l).empty (((Z4k l).step 4).step 5)) (by omega)
 have h2:∀ (w:WorldM) (a b:Nat),MOk w a→a≤b→MOk w b:=fun w a b h hab =>
  ⟨h.words,h.hv,h.pl,h.L,fun j hj=>by have:=h.pins j hj;omega,h.us,h.strong,h.weak,by have:=h.sl;omega,by have:=h.wl;omega⟩
 exact h2 _ _ _ m (by omega)
theorem Ziz(l:List Int)(hl:l.length≤140737488355328):GSpec Tryz.prog 15 [Z0D l] false (Z1p l).av []:=by
 have e:=Z8Q l
 have he:=Ze9 (Z4k l)
 have h1:(((Z4k l).step 4).step 5).l.length≤300:=by rw[e.1];simp;omega
 have h2:=e.2
 by_cases h:300<l.length
 ·have ht:TOk ⟨List.take (Int.toNat 300) l,0⟩:=by simp[TOk];omega
  have e9:Z4k l=⟨List.take (Int.toNat 300) l,0⟩:=rfl
  unfold Z1p
  rw[e9]at he h1 h2 ⊢
  exact gF [] Tryz.func15 [] (Fh 9 [.els (List.map idv (List.take (Int.toNat 300) l))] (Fl 6 idv l (Ftb 7 (decide (300<(↑l.length:Int))) (Fa (by(simp only[List.length_map];omega):(0:Int)≤(300:Int)∧300≤(↑(List.map idv l).length:Int)) (Fa (by simp[List.map_take,List.map_drop,List.map_set,List.map_append,wdv,idv]:List.take (Int.toNat 300) (List.map idv l)=List.map idv (List.take (Int.toNat 300) l)) (Fp 14 (@Zb2 (Tape.mk (List.take (Int.toNat 300) l) 0) ‹_› (by(simp only[bs];omega))) (Fu (@Zle ((Tape.mk (List.take (Int.toNat 300) l) 0).empty) (((Tape.mk (List.take (Int.toNat 300) l) 0).step 4).step 5) ‹_› ‹_› (by omega) (by omega)) Fz)))))))
 ·have ht:TOk ⟨l,0⟩:=by simp[TOk];omega
  have e9:Z4k l=⟨l,0⟩:=by rw[Z4k,List.take_of_length_le (by omega)]
  unfold Z1p
  rw[e9]at he h1 h2 ⊢
  exact gF [] Tryz.func15 [] (Fl 6 idv l (Ffb 7 (decide (300<(↑l.length:Int))) (Fp 14 (@Zb2 (Tape.mk l 0) ‹_› (by(simp only[bs];omega))) (Fu (@Zln ((Tape.mk l 0).empty) (((Tape.mk l 0).step 4).step 5) ‹_› ‹_› (by omega) (by omega)) Fz))))
def spT2(w:WorldM)(t:Tape):Tape:=(t.step (w.heap.words.length:Int)).step (w.heap.pages.length:Int)
def spT3(w:WorldM)(t:Tape):Tape:=(spT2 w t).step 12
def spI(w:WorldM)(t:Tape):Nat:=(t.next (w.heap.words.length:Int)).toNat
def spP(w:WorldM)(t:Tape):Nat:=((t.step (w.heap.words.length:Int)).next (w.heap.pages.length:Int)).toNat
def spPg(w:WorldM)(t:Tape):Page:=w.heap.pages.getD (spP w t) default
def spList:List Int:=[0,1,5,21,4096,4097,4112,16386,1099511627776,61]
def pinQ(p:Page):Page:=if p.kind=1 then⟨p.kind,p.space,p.used,1⟩else p
def spV(w:WorldM)(t:Tape)(d:Int):Int:=if d≤1 then spList.getD ((spT3 w t).next 10).toNat default else bits .xor .u64 (w.heap.words.getD (spI w t) default) (IntKind.u64.wrap (1*2^min ((spT3 w t).next 64).toNat 64))
def spQ(w:WorldM)(t:Tape)(d:Int):Page :=
 if d=3 then⟨(spT3 w t).next 5,(spPg w t).space,(spPg w t).used,(spPg w t).pins⟩
 else if d=4 then⟨(spPg w t).kind,(spT3 w t).next 3,(spPg w t).used,(spPg w t).pins⟩
 else if d=5 then⟨(spPg w t).kind,(spPg w t).space,(spPg w t).used+(spT3 w t).next 9-4,(spPg w t).pins⟩
 else⟨(spPg w t).kind,(spPg w t).space,(spPg w t).used,(spT3 w t).next 3-1⟩
def spH(w:WorldM)(t:Tape)(d:Int):Heap :=
 if d≤2 then⟨w.heap.conf,w.heap.words.set (spI w t) (spV w t d),w.heap.pages,w.heap.space,w.heap.bump⟩
 else if d≤6 then⟨w.heap.conf,w.heap.words,w.heap.pages.set (spP w t) (spQ w t d),w.heap.space,w.heap.bump⟩
 else if d=7 then⟨w.heap.conf,w.heap.words,w.heap.pages,(spT3 w t).next 3,w.heap.bump⟩
 else if d=8 then⟨w.heap.conf,w.heap.words,w.heap.pages,w.heap.space,(spT3 w t).next ((w.heap.pages.length+2:Nat):Int)-1⟩
 else if d=9 then⟨⟨w.heap.conf.pw+4,w.heap.conf.pg⟩,w.heap.words,w.heap.pages,w.heap.space,w.heap.bump⟩
 else if d=10 then⟨w.heap.conf,w.heap.words,w.heap.pages.drop 1,w.heap.space,w.heap.bump⟩
 else⟨w.heap.conf,w.heap.words,w.heap.pages.map pinQ,w.heap.space,w.heap.bump⟩
def spN(w:WorldM)(d:Int):Int:=if d≤1 then 10 else if d=2 then 64 else if d=3 then 5 else if d=4 then 3 else if d=5 then 9 else if d=6 then 3 else if d=7 then 3 else if d=8 then((w.heap.pages.length+2:Nat):Int)else 0
def WorldM.spoil(w:WorldM)(t:Tape):WorldM:=⟨spH w t ((spT2 w t).next 12),w.strong,w.weak⟩
def WorldM.spoilT(w:WorldM)(t:Tape):Tape:=if(spT2 w t).next 12≤8 then(spT3 w t).step (spN w ((spT2 w t).next 12))else spT3 w t
section
variable (w:WorldM) (t:Tape) (hm:MOk w 1000) (ht:TOk t) (ha:t.at'≤900000) (hus:∀ j,j<w.heap.pages.length→-1099511627776≤(w.heap.pages.getD j default).used∧(w.heap.pages.getD j default).used≤1099511627776)
include hm ht ha hus
theorem ZmB(hd:(spT2 w t).next 12=0):LentSpec Tryz.prog 40 [w.av,.pt 0 0 0] [t.b] (w.spoil t).av [(w.spoilT t).b]:=by
 have e7:w.spoil t=⟨⟨w.heap.conf,w.heap.words.set (spI w t) (spV w t 0),w.heap.pages,w.heap.space,w.heap.bump⟩,w.strong,w.weak⟩:=by simp[WorldM.spoil,spH,hd]
 have e8:w.spoilT t=(spT3 w t).step 10:=by simp[WorldM.spoilT,spN,hd]
 have s1:=Z0y (t:=t) (w.heap.words.length:Int)
 have s2:(t.step (w.heap.words.length:Int)).at'≤(spT2 w t).at'∧(spT2 w t).at'≤(t.step (w.heap.words.length:Int)).at'+1∧(spT2 w t).l=(t.step (w.heap.words.length:Int)).l:=Z0y _
 have s3:(spT2 w t).at'≤(spT3 w t).at'∧(spT3 w t).at'≤(spT2 w t).at'+1∧(spT3 w t).l=(spT2 w t).l:=Z0y _
 have k1:=Z0T ht s1.2.2 (by omega) (by omega)
 have k2:TOk (spT2 w t):=Z0T k1 s2.2.2 (by omega) (by omega)
 have k3:TOk (spT3 w t):=Z0T k2 s3.2.2 (by omega) (by omega)
 have a1:=area hm.hv
 have a2:=validB_iff.1 hm.hv
 have a3:=hm.L
 have a4:=hm.pl
 have hw:=hm.words
 have n1:=Z0d t (n:=(w.heap.words.length:Int)) (by omega)
 have n2:=Z0d (t.step (w.heap.words.length:Int)) (n:=(w.heap.pages.length:Int)) (by omega)
 have n3:=Z0d (spT3 w t) (n:=10) (by omega)
 rw[e7,e8]
 unfold spT3 spT2 at *
 exact lF Tryz.func40 [] (Fh 43 [.el (wdv ([0,1,5,21,4096,4097,4112,16386,1099511627776,61].getD ((((t.step (↑w.heap.words.length:Int)).step (↑w.heap.pages.length:Int)).step 12).next 10).toNat default))] (Fh 10044 [.els (List.map wdv (w.heap.words.set (t.next (↑w.heap.words.length:Int)).toNat ([0,1,5,21,4096,4097,4112,16386,1099511627776,61].getD ((((t.step (↑w.heap.words.length:Int)).step (↑w.heap.pages.length:Int)).step 12).next 10).toNat default)))] (Fs 11 (List.map wdv []) (Fa (by(simp only[List.length_map,List.length_cons,List.length_nil];omega):(List.map wdv []).length+(List.map wdv w.heap.words).length≤2^30) (Fs 14 (List.map wdv w.heap.words) (Fs 15 (List.map Page.dv []) (Fa (by(simp only[List.length_map,List.length_cons,List.length_nil];omega):(List.map Page.dv []).length+(List.map Page.dv w.heap.pages).length≤2^30) (Fs 18 (List.map Page.dv w.heap.pages) (Fl 24 wdv w.heap.words (Fp 25 (@Z0e t ((↑w.heap.words.length:Int)) ‹_› (by omega) (by omega)) (Fl 29 Page.dv w.heap.pages (Fp 30 (@Z0e (t.step (↑w.heap.words.length:Int)) ((↑w.heap.pages.length:Int)) ‹_› (by omega) (by omega)) (Fp 32 (@Z0M ((t.step (↑w.heap.words.length:Int)).step (↑w.heap.pages.length:Int)) (0) ‹_› ‹_›) (Fs 39 (List.map wdv [0,1,5,21,4096,4097,4112,16386,1099511627776,61]) (Fp 41 (@Z0e (((t.step (↑w.heap.words.length:Int)).step (↑w.heap.pages.length:Int)).step 12) (10) ‹_› (by omega) (by omega)) (Fa (by(simp only[List.length_map,List.length_cons,List.length_nil];omega):0≤(((t.step (↑w.heap.words.length:Int)).step (↑w.heap.pages.length:Int)).step 12).next 10∧((((t.step (↑w.heap.words.length:Int)).step (↑w.heap.pages.length:Int)).step 12).next 10).toNat<(List.map wdv [0,1,5,21,4096,4097,4112,16386,1099511627776,61]).length) (Fa (by exact Z1e (by simp only[List.length_cons,List.length_nil];omega):(List.map wdv [0,1,5,21,4096,4097,4112,16386,1099511627776,61])[((((t.step (↑w.heap.words.length:Int)).step (↑w.heap.pages.length:Int)).step 12).next 10).toNat]? = some (wdv ([0,1,5,21,4096,4097,4112,16386,1099511627776,61].getD ((((t.step (↑w.heap.words.length:Int)).step (↑w.heap.pages.length:Int)).step 12).next 10).toNat default))) (Fa (by(simp only[List.length_map,List.length_cons,List.length_nil];omega):0≤t.next (↑w.heap.words.length:Int)∧(t.next (↑w.heap.words.length:Int)).toNat<(List.map wdv w.heap.words).length) (Fa (by(simp only[List.length_map,List.length_cons,List.length_nil];omega):(t.next (↑w.heap.words.length:Int)).toNat<(List.map wdv w.heap.words).length) (Fa (by simp[spV,spQ,spPg,spI,spP,spT3,spT2,spList,List.map_take,List.map_drop,List.map_set,List.map_append,wdv,idv]:(List.map wdv w.heap.words).set (t.next (↑w.heap.words.length:Int)).toNat [du64 ([0,1,5,21,4096,4097,4112,16386,1099511627776,61].getD ((((t.step (↑w.heap.words.length:Int)).step (↑w.heap.pages.length:Int)).step 12).next 10).toNat default)]=List.map wdv (w.heap.words.set (t.next (↑w.heap.words.length:Int)).toNat ([0,1,5,21,4096,4097,4112,16386,1099511627776,61].getD ((((t.step (↑w.heap.words.length:Int)).step (↑w.heap.pages.length:Int)).step 12).next 10).toNat default))) Fz))))))))))))))))))))
theorem Zna(hd:(spT2 w t).next 12=1):LentSpec Tryz.prog 40 [w.av,.pt 0 0 0] [t.b] (w.spoil t).av [(w.spoilT t).b]:=by
 have e7:w.spoil t=⟨⟨w.heap.conf,w.heap.words.set (spI w t) (spV w t 1),w.heap.pages,w.heap.space,w.heap.bump⟩,w.strong,w.weak⟩:=by simp[WorldM.spoil,spH,hd]
 have e8:w.spoilT t=(spT3 w t).step 10:=by simp[WorldM.spoilT,spN,hd]
 have s1:=Z0y (t:=t) (w.heap.words.length:Int)
 have s2:(t.step (w.heap.words.length:Int)).at'≤(spT2 w t).at'∧(spT2 w t).at'≤(t.step (w.heap.words.length:Int)).at'+1∧(spT2 w t).l=(t.step (w.heap.words.length:Int)).l:=Z0y _
 have s3:(spT2 w t).at'≤(spT3 w t).at'∧(spT3 w t).at'≤(spT2 w t).at'+1∧(spT3 w t).l=(spT2 w t).l:=Z0y _
 have k1:=Z0T ht s1.2.2 (by omega) (by omega)
 have k2:TOk (spT2 w t):=Z0T k1 s2.2.2 (by omega) (by omega)
 have k3:TOk (spT3 w t):=Z0T k2 s3.2.2 (by omega) (by omega)
 have a1:=area hm.hv
 have a2:=validB_iff.1 hm.hv
 have a3:=hm.L
 have a4:=hm.pl
 have hw:=hm.words
 have n1:=Z0d t (n:=(w.heap.words.length:Int)) (by omega)
 have n2:=Z0d (t.step (w.heap.words.length:Int)) (n:=(w.heap.pages.length:Int)) (by omega)
 have n3:=Z0d (spT3 w t) (n:=10) (by omega)
 rw[e7,e8]
 unfold spT3 spT2 at *
 exact lF Tryz.func40 [] (Fh 43 [.el (wdv ([0,1,5,21,4096,4097,4112,16386,1099511627776,61].getD ((((t.step (↑w.heap.words.length:Int)).step (↑w.heap.pages.length:Int)).step 12).next 10).toNat default))] (Fh 10044 [.els (List.map wdv (w.heap.words.set (t.next (↑w.heap.words.length:Int)).toNat ([0,1,5,21,4096,4097,4112,16386,1099511627776,61].getD ((((t.step (↑w.heap.words.length:Int)).step (↑w.heap.pages.length:Int)).step 12).next 10).toNat default)))] (Fs 11 (List.map wdv []) (Fa (by(simp only[List.length_map,List.length_cons,List.length_nil];omega):(List.map wdv []).length+(List.map wdv w.heap.words).length≤2^30) (Fs 14 (List.map wdv w.heap.words) (Fs 15 (List.map Page.dv []) (Fa (by(simp only[List.length_map,List.length_cons,List.length_nil];omega):(List.map Page.dv []).length+(List.map Page.dv w.heap.pages).length≤2^30) (Fs 18 (List.map Page.dv w.heap.pages) (Fl 24 wdv w.heap.words (Fp 25 (@Z0e t ((↑w.heap.words.length:Int)) ‹_› (by omega) (by omega)) (Fl 29 Page.dv w.heap.pages (Fp 30 (@Z0e (t.step (↑w.heap.words.length:Int)) ((↑w.heap.pages.length:Int)) ‹_› (by omega) (by omega)) (Fp 32 (@Z0M ((t.step (↑w.heap.words.length:Int)).step (↑w.heap.pages.length:Int)) (1) ‹_› ‹_›) (Fs 39 (List.map wdv [0,1,5,21,4096,4097,4112,16386,1099511627776,61]) (Fp 41 (@Z0e (((t.step (↑w.heap.words.length:Int)).step (↑w.heap.pages.length:Int)).step 12) (10) ‹_› (by omega) (by omega)) (Fa (by(simp only[List.length_map,List.length_cons,List.length_nil];omega):0≤(((t.step (↑w.heap.words.length:Int)).step (↑w.heap.pages.length:Int)).step 12).next 10∧((((t.step (↑w.heap.words.length:Int)).step (↑w.heap.pages.length:Int)).step 12).next 10).toNat<(List.map wdv [0,1,5,21,4096,4097,4112,16386,1099511627776,61]).length) (Fa (by exact Z1e (by simp only[List.length_cons,List.length_nil];omega):(List.map wdv [0,1,5,21,4096,4097,4112,16386,1099511627776,61])[((((t.step (↑w.heap.words.length:Int)).step (↑w.heap.pages.length:Int)).step 12).next 10).toNat]? = some (wdv ([0,1,5,21,4096,4097,4112,16386,1099511627776,61].getD ((((t.step (↑w.heap.words.length:Int)).step (↑w.heap.pages.length:Int)).step 12).next 10).toNat default))) (Fa (by(simp only[List.length_map,List.length_cons,List.length_nil];omega):0≤t.next (↑w.heap.words.length:Int)∧(t.next (↑w.heap.words.length:Int)).toNat<(List.map wdv w.heap.words).length) (Fa (by(simp only[List.length_map,List.length_cons,List.length_nil];omega):(t.next (↑w.heap.words.length:Int)).toNat<(List.map wdv w.heap.words).length) (Fa (by simp[spV,spQ,spPg,spI,spP,spT3,spT2,spList,List.map_take,List.map_drop,List.map_set,List.map_append,wdv,idv]:(List.map wdv w.heap.words).set (t.next (↑w.heap.words.length:Int)).toNat [du64 ([0,1,5,21,4096,4097,4112,16386,1099511627776,61].getD ((((t.step (↑w.heap.words.length:Int)).step (↑w.heap.pages.length:Int)).step 12).next 10).toNat default)]=List.map wdv (w.heap.words.set (t.next (↑w.heap.words.length:Int)).toNat ([0,1,5,21,4096,4097,4112,16386,1099511627776,61].getD ((((t.step (↑w.heap.words.length:Int)).step (↑w.heap.pages.length:Int)).step 12).next 10).toNat default))) Fz))))))))))))))))))))
theorem ZmX(hd:(spT2 w t).next 12=2):LentSpec Tryz.prog 40 [w.av,.pt 0 0 0] [t.b] (w.spoil t).av [(w.spoilT t).b]:=by
 have e7:w.spoil t=⟨⟨w.heap.conf,w.heap.words.set (spI w t) (spV w t 2),w.heap.pages,w.heap.space,w.heap.bump⟩,w.strong,w.weak⟩:=by simp[WorldM.spoil,spH,hd]
 have e8:w.spoilT t=(spT3 w t).step 64:=by simp[WorldM.spoilT,spN,hd]
 have s1:=Z0y (t:=t) (w.heap.words.length:Int)
 have s2:(t.step (w.heap.words.length:Int)).at'≤(spT2 w t).at'∧(spT2 w t).at'≤(t.step (w.heap.words.length:Int)).at'+1∧(spT2 w t).l=(t.step (w.heap.words.length:Int)).l:=Z0y _
 have s3:(spT2 w t).at'≤(spT3 w t).at'∧(spT3 w t).at'≤(spT2 w t).at'+1∧(spT3 w t).l=(spT2 w t).l:=Z0y _
 have k1:=Z0T ht s1.2.2 (by omega) (by omega)
 have k2:TOk (spT2 w t):=Z0T k1 s2.2.2 (by omega) (by omega)
 have k3:TOk (spT3 w t):=Z0T k2 s3.2.2 (by omega) (by omega)
 have a1:=area hm.hv
 have a2:=validB_iff.1 hm.hv
 have a3:=hm.L
 have a4:=hm.pl
 have hw:=hm.words
 have n1:=Z0d t (n:=(w.heap.words.length:Int)) (by omega)
 have n2:=Z0d (t.step (w.heap.words.length:Int)) (n:=(w.heap.pages.length:Int)) (by omega)
 have n3:=Z0d (spT3 w t) (n:=64) (by omega)
 rw[e7,e8]
 unfold spT3 spT2 at *
 exact lF Tryz.func40 [] (Fh 51 [.el (wdv (w.heap.words.getD (t.next (↑w.heap.words.length:Int)).toNat default))] (Fh 10057 [.els (List.map wdv (w.heap.words.set (t.next (↑w.heap.words.length:Int)).toNat (bits BinOp.xor IntKind.u64 (w.heap.words.getD (t.next (↑w.heap.words.length:Int)).toNat default) (IntKind.u64.wrap ((1:Int)*2^min ((((t.step (↑w.heap.words.length:Int)).step (↑w.heap.pages.length:Int)).step 12).next 64).toNat 64)))))] (Fs 11 (List.map wdv []) (Fa (by(simp[spV,spQ,spPg,spI,spP,spT3,spT2,spList, *];omega):(List.map wdv []).length+(List.map wdv w.heap.words).length≤2^30) (Fs 14 (List.map wdv w.heap.words) (Fs 15 (List.map Page.dv []) (Fa (by(simp[spV,spQ,spPg,spI,spP,spT3,spT2,spList, *];omega):(List.map Page.dv []).length+(List.map Page.dv w.heap.pages).length≤2^30) (Fs 18 (List.map Page.dv w.heap.pages) (Fl 24 wdv w.heap.words (Fp 25 (@Z0e t ((↑w.heap.words.length:Int)) ‹_› (by omega) (by omega)) (Fl 29 Page.dv w.heap.pages (Fp 30 (@Z0e (t.step (↑w.heap.words.length:Int)) ((↑w.heap.pages.length:Int)) ‹_› (by omega) (by omega)) (Fp 32 (@Z0M ((t.step (↑w.heap.words.length:Int)).step (↑w.heap.pages.length:Int)) (2) ‹_› ‹_›) (Fa (by(simp only[List.length_map];omega):0≤t.next (↑w.heap.words.length:Int)∧(t.next (↑w.heap.words.length:Int)).toNat<(List.map wdv w.heap.words).length) (Fa (by exact Z1e (by omega):(List.map wdv w.heap.words)[(t.next (↑w.heap.words.length:Int)).toNat]? = some (wdv (w.heap.words.getD (t.next (↑w.heap.words.length:Int)).toNat default))) (Fp 53 (@Z0e (((t.step (↑w.heap.words.length:Int)).step (↑w.heap.pages.length:Int)).step 12) (64) ‹_› (by omega) (by omega)) (Fv 54 ((((t.step (↑w.heap.words.length:Int)).step (↑w.heap.pages.length:Int)).step 12).next 64) (Fo (0≤(((t.step (↑w.heap.words.length:Int)).step (↑w.heap.pages.length:Int)).step 12).next 64) (Fa (by(simp only[List.length_map];omega):0≤t.next (↑w.heap.words.length:Int)∧(t.next (↑w.heap.words.length:Int)).toNat<(List.map wdv w.heap.words).length) (Fa (by(simp only[List.length_map];omega):(t.next (↑w.heap.words.length:Int)).toNat<(List.map wdv w.heap.words).length) (Fa (by rw[List.map_set];rfl:(List.map wdv w.heap.words).set (t.next (↑w.heap.words.length:Int)).toNat [du64 (bits BinOp.xor IntKind.u64 (w.heap.words.getD (t.next (↑w.heap.words.length:Int)).toNat default) (IntKind.u64.wrap ((1:Int)*2^min ((((t.step (↑w.heap.words.length:Int)).step (↑w.heap.pages.length:Int)).step 12).next 64).toNat IntKind.u64.bits)))]=List.map wdv (w.heap.words.set (t.next (↑w.heap.words.length:Int)).toNat (bits BinOp.xor IntKind.u64 (w.heap.words.getD (t.next (↑w.heap.words.length:Int)).toNat default) (IntKind.u64.wrap ((1:Int)*2^min ((((t.step (↑w.heap.words.length:Int)).step (↑w.heap.pages.length:Int)).step 12).next 64).toNat 64))))) Fz)))))))))))))))))))))
theorem Zmv(hd:(spT2 w t).next 12=3):LentSpec Tryz.prog 40 [w.av,.pt 0 0 0] [t.b] (w.spoil t).av [(w.spoilT t).b]:=by
 have e7:w.spoil t=⟨⟨w.heap.conf,w.heap.words,w.heap.pages.set (spP w t) (spQ w t 3),w.heap.space,w.heap.bump⟩,w.strong,w.weak⟩:=by simp[WorldM.spoil,spH,hd]
 have e8:w.spoilT t=(spT3 w t).step 5:=by simp[WorldM.spoilT,spN,hd]
 have s1:=Z0y (t:=t) (w.heap.words.length:Int)
 have s2:(t.step (w.heap.words.length:Int)).at'≤(spT2 w t).at'∧(spT2 w t).at'≤(t.step (w.heap.words.length:Int)).at'+1∧(spT2 w t).l=(t.step (w.heap.words.length:Int)).l:=Z0y _
 have s3:(spT2 w t).at'≤(spT3 w t).at'∧(spT3 w t).at'≤(spT2 w t).at'+1∧(spT3 w t).l=(spT2 w t).l:=Z0y _
 have k1:=Z0T ht s1.2.2 (by omega) (by omega)
 have k2:TOk (spT2 w t):=Z0T k1 s2.2.2 (by omega) (by omega)
 have k3:TOk (spT3 w t):=Z0T k2 s3.2.2 (by omega) (by omega)
 have a1:=area hm.hv
 have a2:=validB_iff.1 hm.hv
 have a3:=hm.L
 have a4:=hm.pl
 have hw:=hm.words
 have n1:=Z0d t (n:=(w.heap.words.length:Int)) (by omega)
 have n2:=Z0d (t.step (w.heap.words.length:Int)) (n:=(w.heap.pages.length:Int)) (by omega)
 have n3:=Z0d (spT3 w t) (n:=5) (by omega)
 rw[e7,e8]
 unfold spT3 spT2 at *
 exact lF Tryz.func40 [] (Fs 11 (List.map wdv []) (Fa (by(simp[spV,spQ,spPg,spI,spP,spT3,spT2,spList, *];omega):(List.map wdv []).length+(List.map wdv w.heap.words).length≤2^30) (Fs 14 (List.map wdv w.heap.words) (Fs 15 (List.map Page.dv []) (Fa (by(simp[spV,spQ,spPg,spI,spP,spT3,spT2,spList, *];omega):(List.map Page.dv []).length+(List.map Page.dv w.heap.pages).length≤2^30) (Fs 18 (List.map Page.dv w.heap.pages) (Fl 24 wdv w.heap.words (Fp 25 (@Z0e t ((↑w.heap.words.length:Int)) ‹_› (by omega) (by omega)) (Fl 29 Page.dv w.heap.pages (Fp 30 (@Z0e (t.step (↑w.heap.words.length:Int)) ((↑w.heap.pages.length:Int)) ‹_› (by omega) (by omega)) (Fp 32 (@Z0M ((t.step (↑w.heap.words.length:Int)).step (↑w.heap.pages.length:Int)) (3) ‹_› ‹_›) (Fp 64 (@Z0e (((t.step (↑w.heap.words.length:Int)).step (↑w.heap.pages.length:Int)).step 12) (5) ‹_› (by omega) (by omega)) (Fa (by(simp only[List.length_map];omega):0≤(t.step (↑w.heap.words.length:Int)).next (↑w.heap.pages.length:Int)∧((t.step (↑w.heap.words.length:Int)).next (↑w.heap.pages.length:Int)).toNat<(List.map Page.dv w.heap.pages).length) (Fa (by exact Z1e (by omega):(List.map Page.dv w.heap.pages)[((t.step (↑w.heap.words.length:Int)).next (↑w.heap.pages.length:Int)).toNat]? = some (w.heap.pages.getD ((t.step (↑w.heap.words.length:Int)).next (↑w.heap.pages.length:Int)).toNat default).dv) (FS 10066 Page.dv w.heap.pages (((t.step (↑w.heap.words.length:Int)).next (↑w.heap.pages.length:Int)).toNat) (Page.mk ((((t.step (↑w.heap.words.length:Int)).step (↑w.heap.pages.length:Int)).step 12).next 5) (w.heap.pages.getD ((t.step (↑w.heap.words.length:Int)).next (↑w.heap.pages.length:Int)).toNat default).space (w.heap.pages.getD ((t.step (↑w.heap.words.length:Int)).next (↑w.heap.pages.length:Int)).toNat default).used (w.heap.pages.getD ((t.step (↑w.heap.words.length:Int)).next (↑w.heap.pages.length:Int)).toNat default).pins) ((w.heap.pages.getD ((t.step (↑w.heap.words.length:Int)).next (↑w.heap.pages.length:Int)).toNat default).dv) Fz)))))))))))))))
theorem ZmY(hd:(spT2 w t).next 12=4):LentSpec Tryz.prog 40 [w.av,.pt 0 0 0] [t.b] (w.spoil t).av [(w.spoilT t).b]:=by
 have e7:w.spoil t=⟨⟨w.heap.conf,w.heap.words,w.heap.pages.set (spP w t) (spQ w t 4),w.heap.space,w.heap.bump⟩,w.strong,w.weak⟩:=by simp[WorldM.spoil,spH,hd]
 have e8:w.spoilT t=(spT3 w t).step 3:=by simp[WorldM.spoilT,spN,hd]
 have s1:=Z0y (t:=t) (w.heap.words.length:Int)
 have s2:(t.step (w.heap.words.length:Int)).at'≤(spT2 w t).at'∧(spT2 w t).at'≤(t.step (w.heap.words.length:Int)).at'+1∧(spT2 w t).l=(t.step (w.heap.words.length:Int)).l:=Z0y _
 have s3:(spT2 w t).at'≤(spT3 w t).at'∧(spT3 w t).at'≤(spT2 w t).at'+1∧(spT3 w t).l=(spT2 w t).l:=Z0y _
 have k1:=Z0T ht s1.2.2 (by omega) (by omega)
 have k2:TOk (spT2 w t):=Z0T k1 s2.2.2 (by omega) (by omega)
 have k3:TOk (spT3 w t):=Z0T k2 s3.2.2 (by omega) (by omega)
 have a1:=area hm.hv
 have a2:=validB_iff.1 hm.hv
 have a3:=hm.L
 have a4:=hm.pl
 have hw:=hm.words
 have n1:=Z0d t (n:=(w.heap.words.length:Int)) (by omega)
 have n2:=Z0d (t.step (w.heap.words.length:Int)) (n:=(w.heap.pages.length:Int)) (by omega)
 have n3:=Z0d (spT3 w t) (n:=3) (by omega)
 rw[e7,e8]
 unfold spT3 spT2 at *
 exact lF Tryz.func40 [] (Fs 11 (List.map wdv []) (Fa (by(simp[spV,spQ,spPg,spI,spP,spT3,spT2,spList, *];omega):(List.map wdv []).length+(List.map wdv w.heap.words).length≤2^30) (Fs 14 (List.map wdv w.heap.words) (Fs 15 (List.map Page.dv []) (Fa (by(simp[spV,spQ,spPg,spI,spP,spT3,spT2,spList, *];omega):(List.map Page.dv []).length+(List.map Page.dv w.heap.pages).length≤2^30) (Fs 18 (List.map Page.dv w.heap.pages) (Fl 24 wdv w.heap.words (Fp 25 (@Z0e t ((↑w.heap.words.length:Int)) ‹_› (by omega) (by omega)) (Fl 29 Page.dv w.heap.pages (Fp 30 (@Z0e (t.step (↑w.heap.words.length:Int)) ((↑w.heap.pages.length:Int)) ‹_› (by omega) (by omega)) (Fp 32 (@Z0M ((t.step (↑w.heap.words.length:Int)).step (↑w.heap.pages.length:Int)) (4) ‹_› ‹_›) (Fp 73 (@Z0e (((t.step (↑w.heap.words.length:Int)).step (↑w.heap.pages.length:Int)).step 12) (3) ‹_› (by omega) (by omega)) (Fa (by(simp only[List.length_map];omega):0≤(t.step (↑w.heap.words.length:Int)).next (↑w.heap.pages.length:Int)∧((t.step (↑w.heap.words.length:Int)).next (↑w.heap.pages.length:Int)).toNat<(List.map Page.dv w.heap.pages).length) (Fa (by exact Z1e (by omega):(List.map Page.dv w.heap.pages)[((t.step (↑w.heap.words.length:Int)).next (↑w.heap.pages.length:Int)).toNat]? = some (w.heap.pages.getD ((t.step (↑w.heap.words.length:Int)).next (↑w.heap.pages.length:Int)).toNat default).dv) (FS 10075 Page.dv w.heap.pages (((t.step (↑w.heap.words.length:Int)).next (↑w.heap.pages.length:Int)).toNat) (Page.mk (w.heap.pages.getD ((t.step (↑w.heap.words.length:Int)).next (↑w.heap.pages.length:Int)).toNat default).kind ((((t.step (↑w.heap.words.length:Int)).step (↑w.heap.pages.length:Int)).step 12).next 3) (w.heap.pages.getD ((t.step (↑w.heap.words.length:Int)).next (↑w.heap.pages.length:Int)).toNat default).used (w.heap.pages.getD ((t.step (↑w.heap.words.length:Int)).next (↑w.heap.pages.length:Int)).toNat default).pins) ((w.heap.pages.getD ((t.step (↑w.heap.words.length:Int)).next (↑w.heap.pages.length:Int)).toNat default).dv) Fz)))))))))))))))
theorem Znc(hd:(spT2 w t).next 12=5):LentSpec Tryz.prog 40 [w.av,.pt 0 0 0] [t.b] (w.spoil t).av [(w.spoilT t).b]:=by
 have e7:w.spoil t=⟨⟨w.heap.conf,w.heap.words,w.heap.pages.set (spP w t) (spQ w t 5),w.heap.space,w.heap.bump⟩,w.strong,w.weak⟩:=by simp[WorldM.spoil,spH,hd]
 have e8:w.spoilT t=(spT3 w t).step 9:=by simp[WorldM.spoilT,spN,hd]
 have s1:=Z0y (t:=t) (w.heap.words.length:Int)
 have s2:(t.step (w.heap.words.length:Int)).at'≤(spT2 w t).at'∧(spT2 w t).at'≤(t.step (w.heap.words.length:Int)).at'+1∧(spT2 w t).l=(t.step (w.heap.words.length:Int)).l:=Z0y _
 have s3:(spT2 w t).at'≤(spT3 w t).at'∧(spT3 w t).at'≤(spT2 w t).at'+1∧(spT3 w t).l=(spT2 w t).l:=Z0y _
 have k1:=Z0T ht s1.2.2 (by omega) (by omega)
 have k2:TOk (spT2 w t):=Z0T k1 s2.2.2 (by omega) (by omega)
 have k3:TOk (spT3 w t):=Z0T k2 s3.2.2 (by omega) (by omega)
 have a1:=area hm.hv
 have a2:=validB_iff.1 hm.hv
 have a3:=hm.L
 have a4:=hm.pl
 have hw:=hm.words
 have n1:=Z0d t (n:=(w.heap.words.length:Int)) (by omega)
 have n2:=Z0d (t.step (w.heap.words.length:Int)) (n:=(w.heap.pages.length:Int)) (by omega)
 have n3:=Z0d (spT3 w t) (n:=9) (by omega)
 have pu:=hus (spP w t)
 unfold spP at pu
 rw[e7,e8]
 unfold spT3 spT2 at *
 exact lF Tryz.func40 [] (Fh 86 [.el (w.heap.pages.getD ((t.step (↑w.heap.words.length:Int)).next (↑w.heap.pages.length:Int)).toNat default).dv] (Fs 11 (List.map wdv []) (Fa (by(simp[spV,spQ,spPg,spI,spP,spT3,spT2,spList, *];omega):(List.map wdv []).length+(List.map wdv w.heap.words).length≤2^30) (Fs 14 (List.map wdv w.heap.words) (Fs 15 (List.map Page.dv []) (Fa (by(simp[spV,spQ,spPg,spI,spP,spT3,spT2,spList, *];omega):(List.map Page.dv []).length+(List.map Page.dv w.heap.pages).length≤2^30) (Fs 18 (List.map Page.dv w.heap.pages) (Fl 24 wdv w.heap.words (Fp 25 (@Z0e t ((↑w.heap.words.length:Int)) ‹_› (by omega) (by omega)) (Fl 29 Page.dv w.heap.pages (Fp 30 (@Z0e (t.step (↑w.heap.words.length:Int)) ((↑w.heap.pages.length:Int)) ‹_› (by omega) (by omega)) (Fp 32 (@Z0M ((t.step (↑w.heap.words.length:Int)).step (↑w.heap.pages.length:Int)) (5) ‹_› ‹_›) (Fa (by(simp only[List.length_map];omega):0≤(t.step (↑w.heap.words.length:Int)).next (↑w.heap.pages.length:Int)∧((t.step (↑w.heap.words.length:Int)).next (↑w.heap.pages.length:Int)).toNat<(List.map Page.dv w.heap.pages).length) (Fa (by exact Z1e (by omega):(List.map Page.dv w.heap.pages)[((t.step (↑w.heap.words.length:Int)).next (↑w.heap.pages.length:Int)).toNat]? = some (w.heap.pages.getD ((t.step (↑w.heap.words.length:Int)).next (↑w.heap.pages.length:Int)).toNat default).dv) (Fp 88 (@Z0e (((t.step (↑w.heap.words.length:Int)).step (↑w.heap.pages.length:Int)).step 12) (9) ‹_› (by omega) (by omega)) (Fi 89 ((w.heap.pages.getD ((t.step (↑w.heap.words.length:Int)).next (↑w.heap.pages.length:Int)).toNat default).used+(((t.step (↑w.heap.words.length:Int)).step (↑w.heap.pages.length:Int)).step 12).next 9) (Fi 90 ((w.heap.pages.getD ((t.step (↑w.heap.words.length:Int)).next (↑w.heap.pages.length:Int)).toNat default).used+(((t.step (↑w.heap.words.length:Int)).step (↑w.heap.pages.length:Int)).step 12).next (9:Int)-4) (Fa (by(simp only[List.length_map];omega):0≤(t.step (↑w.heap.words.length:Int)).next (↑w.heap.pages.length:Int)∧((t.step (↑w.heap.words.length:Int)).next (↑w.heap.pages.length:Int)).toNat<(List.map Page.dv w.heap.pages).length) (Fa (by exact Z1e (by omega):(List.map Page.dv w.heap.pages)[((t.step (↑w.heap.words.length:Int)).next (↑w.heap.pages.length:Int)).toNat]? = some (w.heap.pages.getD ((t.step (↑w.heap.words.length:Int)).next (↑w.heap.pages.length:Int)).toNat default).dv) (FS 10092 Page.dv w.heap.pages (((t.step (↑w.heap.words.length:Int)).next (↑w.heap.pages.length:Int)).toNat) (Page.mk (w.heap.pages.getD ((t.step (↑w.heap.words.length:Int)).next (↑w.heap.pages.length:Int)).toNat default).kind (w.heap.pages.getD ((t.step (↑w.heap.words.length:Int)).next (↑w.heap.pages.length:Int)).toNat default).space ((w.heap.pages.getD ((t.step (↑w.heap.words.length:Int)).next (↑w.heap.pages.length:Int)).toNat default).used+(((t.step (↑w.heap.words.length:Int)).step (↑w.heap.pages.length:Int)).step 12).next (9:Int)-4) (w.heap.pages.getD ((t.step (↑w.heap.words.length:Int)).next (↑w.heap.pages.length:Int)).toNat default).pins) ((w.heap.pages.getD ((t.step (↑w.heap.words.length:Int)).next (↑w.heap.pages.length:Int)).toNat default).dv) Fz))))))))))))))))))))
theorem ZmV(hd:(spT2 w t).next 12=6):LentSpec Tryz.prog 40 [w.av,.pt 0 0 0] [t.b] (w.spoil t).av [(w.spoilT t).b]:=by
 have e7:w.spoil t=⟨⟨w.heap.conf,w.heap.words,w.heap.pages.set (spP w t) (spQ w t 6),w.heap.space,w.heap.bump⟩,w.strong,w.weak⟩:=by simp[WorldM.spoil,spH,hd]
 have e8:w.spoilT t=(spT3 w t).step 3:=by simp[WorldM.spoilT,spN,hd]
 have s1:=Z0y (t:=t) (w.heap.words.length:Int)
 have s2:(t.step (w.heap.words.length:Int)).at'≤(spT2 w t).at'∧(spT2 w t).at'≤(t.step (w.heap.words.length:Int)).at'+1∧(spT2 w t).l=(t.step (w.heap.words.length:Int)).l:=Z0y _
 have s3:(spT2 w t).at'≤(spT3 w t).at'∧(spT3 w t).at'≤(spT2 w t).at'+1∧(spT3 w t).l=(spT2 w t).l:=Z0y _
 have k1:=Z0T ht s1.2.2 (by omega) (by omega)
 have k2:TOk (spT2 w t):=Z0T k1 s2.2.2 (by omega) (by omega)
 have k3:TOk (spT3 w t):=Z0T k2 s3.2.2 (by omega) (by omega)
 have a1:=area hm.hv
 have a2:=validB_iff.1 hm.hv
 have a3:=hm.L
 have a4:=hm.pl
 have hw:=hm.words
 have n1:=Z0d t (n:=(w.heap.words.length:Int)) (by omega)
 have n2:=Z0d (t.step (w.heap.words.length:Int)) (n:=(w.heap.pages.length:Int)) (by omega)
 have n3:=Z0d (spT3 w t) (n:=3) (by omega)
 rw[e7,e8]
 unfold spT3 spT2 at *
 exact lF Tryz.func40 [] (Fs 11 (List.map wdv []) (Fa (by(simp[spV,spQ,spPg,spI,spP,spT3,spT2,spList, *];omega):(List.map wdv []).length+(List.map wdv w.heap.words).length≤2^30) (Fs 14 (List.map wdv w.heap.words) (Fs 15 (List.map Page.dv []) (Fa (by(simp[spV,spQ,spPg,spI,spP,spT3,spT2,spList, *];omega):(List.map Page.dv []).length+(List.map Page.dv w.heap.pages).length≤2^30) (Fs 18 (List.map Page.dv w.heap.pages) (Fl 24 wdv w.heap.words (Fp 25 (@Z0e t ((↑w.heap.words.length:Int)) ‹_› (by omega) (by omega)) (Fl 29 Page.dv w.heap.pages (Fp 30 (@Z0e (t.step (↑w.heap.words.length:Int)) ((↑w.heap.pages.length:Int)) ‹_› (by omega) (by omega)) (Fp 32 (@Z0M ((t.step (↑w.heap.words.length:Int)).step (↑w.heap.pages.length:Int)) (6) ‹_› ‹_›) (Fp 99 (@Z0e (((t.step (↑w.heap.words.length:Int)).step (↑w.heap.pages.length:Int)).step 12) (3) ‹_› (by omega) (by omega)) (Fi 100 ((((t.step (↑w.heap.words.length:Int)).step (↑w.heap.pages.length:Int)).step 12).next (3:Int)-1) (Fa (by(simp only[List.length_map];omega):0≤(t.step (↑w.heap.words.length:Int)).next (↑w.heap.pages.length:Int)∧((t.step (↑w.heap.words.length:Int)).next (↑w.heap.pages.length:Int)).toNat<(List.map Page.dv w.heap.pages).length) (Fa (by exact Z1e (by omega):(List.map Page.dv w.heap.pages)[((t.step (↑w.heap.words.length:Int)).next (↑w.heap.pages.length:Int)).toNat]? = some (w.heap.pages.getD ((t.step (↑w.heap.words.length:Int)).next (↑w.heap.pages.length:Int)).toNat default).dv) (FS 10102 Page.dv w.heap.pages (((t.step (↑w.heap.words.length:Int)).next (↑w.heap.pages.length:Int)).toNat) (Page.mk (w.heap.pages.getD ((t.step (↑w.heap.words.length:Int)).next (↑w.heap.pages.length:Int)).toNat default).kind (w.heap.pages.getD ((t.step (↑w.heap.words.length:Int)).next (↑w.heap.pages.length:Int)).toNat default).space (w.heap.pages.getD ((t.step (↑w.heap.words.length:Int)).next (↑w.heap.pages.length:Int)).toNat default).used ((((t.step (↑w.heap.words.length:Int)).step (↑w.heap.pages.length:Int)).step 12).next (3:Int)-1)) ((w.heap.pages.getD ((t.step (↑w.heap.words.length:Int)).next (↑w.heap.pages.length:Int)).toNat default).dv) Fz))))))))))))))))
end
def pinL(w:WorldM)(tp:Tape)(i:Nat):Tg:=⟨tm 156 [(2,.pt 8002 0 0),(4,.pt 8004 0 0),(5,.pt 16005 0 0),(8,int i)],[(0,tp.b),(16005,.box 28 [int w.heap.conf.pw,int w.heap.conf.pg,.ow 24014,.ow 24018,int w.heap.space,int w.heap.bump]),(24018,.arr 134 4 ((preM pinQ w.heap.pages i).map Page.dv)),(24014,.arr 56 1 (w.heap.words.map wdv)),(8004,.box 30 [int 0,int 0,.d (.sl 0 []),.d (.sl 0 []),int 0,int 0,.d (.sl 0 []),.d (.sl 0 [])]),(8002,.box 30 w.cells)],60⟩
theorem Zjg(w:WorldM)(tp:Tape)(i:Nat)(hl:w.heap.pages.length≤64)(hi:i<w.heap.pages.length):CSpec Tryz.prog (rndF Tryz.f40 1) (pinL w tp i).st .nrm (pinL w tp (i+1)).st:=by
 have ha:=Z6S pinQ w.heap.pages (Nat.le_refl i) default
 have hn:=Z3n pinQ w.heap.pages i
 by_cases hc:(w.heap.pages.getD i default).kind=1
 ·have hq:=Z5E pinQ w.heap.pages hi default
  rw[show pinQ (w.heap.pages.getD i default)=⟨(w.heap.pages.getD i default).kind,(w.heap.pages.getD i default).space,(w.heap.pages.getD i default).used,1⟩ by rw[pinQ,if_pos hc],← ha]at hq
  rw[← ha]at hc
  rcases bb (((preM pinQ w.heap.pages i).getD (↑i:Int).toNat default).kind==1)with hc0 | hc0<;>have hc0p:=hc0<;>simp only[bs]at hc0p
  ·exact sF [] [false,false,false,false,false,false,true] (Fl 137 Page.dv (preM pinQ w.heap.pages i) (Ftb 138 (decide ((↑i:Int)<(↑(preM pinQ w.heap.pages i).length:Int))) (Fm 146 Page.dv (preM pinQ w.heap.pages i) (↑i) ((↑i:Int).toNat) (Ft 147 hc0 (Fm0 Page.dv (preM pinQ w.heap.pages i) (↑i) ((↑i:Int).toNat) (FS 10152 Page.dv (preM pinQ w.heap.pages i) ((↑i:Int).toNat) (Page.mk ((preM pinQ w.heap.pages i).getD (↑i:Int).toNat default).kind ((preM pinQ w.heap.pages i).getD (↑i:Int).toNat default).space ((preM pinQ w.heap.pages i).getD (↑i:Int).toNat default).used 1) (((preM pinQ w.heap.pages i).getD (↑i:Int).toNat default).dv) (Fx 140 i (Fr (134:Int) (Fa (by refine congrArg _ ?_;exact hq:List.map Page.dv ((preM pinQ w.heap.pages i).set (↑i:Int).toNat (Page.mk ((preM pinQ w.heap.pages i).getD (↑i:Int).toNat default).kind ((preM pinQ w.heap.pages i).getD (↑i:Int).toNat default).space ((preM pinQ w.heap.pages i).getD (↑i:Int).toNat default).used 1))=List.map Page.dv (preM pinQ w.heap.pages (i+1))) Fz)))))))))
  ·contradiction
 ·have hq:=Z8g pinQ w.heap.pages hi default (by rw[pinQ,if_neg hc])
  rw[← ha]at hc
  rcases bb (((preM pinQ w.heap.pages i).getD (↑i:Int).toNat default).kind==1)with hc0 | hc0<;>have hc0p:=hc0<;>simp only[bs]at hc0p
  ·contradiction
  ·exact sF [] [false,false,false,false,false,false,true] (Fl 137 Page.dv (preM pinQ w.heap.pages i) (Ftb 138 (decide ((↑i:Int)<(↑(preM pinQ w.heap.pages i).length:Int))) (Fm 146 Page.dv (preM pinQ w.heap.pages i) (↑i) ((↑i:Int).toNat) (Ff 147 hc0 (Fx 140 i (Fr (134:Int) (Fa (by refine congrArg _ ?_;exact hq:List.map Page.dv (preM pinQ w.heap.pages i)=List.map Page.dv (preM pinQ w.heap.pages (i+1))) Fz)))))))
theorem Znb(w:WorldM)(tp:Tape):CSpec Tryz.prog (rndF Tryz.f40 1) (pinL w tp w.heap.pages.length).st (.ext 1) (Tg.st ⟨tm 156 [(2,.pt 8002 0 0),(4,.pt 8004 0 0),(5,.pt 16005 0 0)],[(0,tp.b),(16005,.box 28 [int w.heap.conf.pw,int w.heap.conf.pg,.ow 24014,.ow 24018,int w.heap.space,int w.heap.bump]),(24018,.arr 134 4 ((w.heap.pages.map pinQ).map Page.dv)),(24014,.arr 56 1 (w.heap.words.map wdv)),(8004,.box 30 [int 0,int 0,.d (.sl 0 []),.d (.sl 0 []),int 0,int 0,.d (.sl 0 []),.d (.sl 0 [])]),(8002,.box 30 w.cells)],60⟩):=by
 have hq:=Z6Q pinQ w.heap.pages
 have hn:=Z3n pinQ w.heap.pages w.heap.pages.length
 exact sF [] [false,false,false,false,false,true] (Fl 137 Page.dv (preM pinQ w.heap.pages w.heap.pages.length) (Ffb 138 (decide ((↑w.heap.pages.length:Int)<(↑(preM pinQ w.heap.pages w.heap.pages.length).length:Int))) (Fr (134:Int) (Fa (by refine congrArg _ ?_;assumption:List.map Page.dv (preM pinQ w.heap.pages w.heap.pages.length)=List.map Page.dv (List.map pinQ w.heap.pages)) Fz))))
theorem ZkF(w:WorldM)(tp:Tape)(hl:w.heap.pages.length≤64):CSpec Tryz.prog (blkF Tryz.f40 1) (Tg.st ⟨tm 156 [(2,.pt 8002 0 0),(4,.pt 8004 0 0),(5,.pt 16005 0 0),(8,int 0)],[(0,tp.b),(16005,.box 28 [int w.heap.conf.pw,int w.heap.conf.pg,.ow 24014,.ow 24018,int w.heap.space,int w.heap.bump]),(24018,.arr 134 4 (w.heap.pages.map Page.dv)),(24014,.arr 56 1 (w.heap.words.map wdv)),(8004,.box 30 [int 0,int 0,.d (.sl 0 []),.d (.sl 0 []),int 0,int 0,.d (.sl 0 []),.d (.sl 0 [])]),(8002,.box 30 w.cells)],60⟩) .nrm (Tg.st ⟨tm 156 [(2,.pt 8002 0 0),(4,.pt 8004 0 0),(5,.pt 16005 0 0)],[(0,tp.b),(16005,.box 28 [int w.heap.conf.pw,int w.heap.conf.pg,.ow 24014,.ow 24018,int w.heap.space,int w.heap.bump]),(24018,.arr 134 4 ((w.heap.pages.map pinQ).map Page.dv)),(24014,.arr 56 1 (w.heap.words.map wdv)),(8004,.box 30 [int 0,int 0,.d (.sl 0 []),.d (.sl 0 []),int 0,int 0,.d (.sl 0 []),.d (.sl 0 [])]),(8002,.box 30 w.cells)],60⟩):=by
 have:=Z0b (S:=fun k=>(pinL w tp k).st) w.heap.pages.length (by kernel_rfl) (fun k hk=>Zjg w tp k hl hk) (Znb w tp)
 simp only[pinL,ZaP]at this
 exact this
section
variable (w:WorldM) (t:Tape) (hm:MOk w 1000) (ht:TOk t) (ha:t.at'≤900000) (hus:∀ j,j<w.heap.pages.length→-1099511627776≤(w.heap.pages.getD j default).used∧(w.heap.pages.getD j default).used≤1099511627776)
include hm ht ha hus
theorem ZmA(hd:(spT2 w t).next 12=7):LentSpec Tryz.prog 40 [w.av,.pt 0 0 0] [t.b] (w.spoil t).av [(w.spoilT t).b]:=by
 have e7:w.spoil t=⟨⟨w.heap.conf,w.heap.words,w.heap.pages,(spT3 w t).next 3,w.heap.bump⟩,w.strong,w.weak⟩:=by simp[WorldM.spoil,spH,hd]
 have e8:w.spoilT t=(spT3 w t).step 3:=by simp[WorldM.spoilT,spN,hd]
 have s1:=Z0y (t:=t) (w.heap.words.length:Int)
 have s2:(t.step (w.heap.words.length:Int)).at'≤(spT2 w t).at'∧(spT2 w t).at'≤(t.step (w.heap.words.length:Int)).at'+1∧(spT2 w t).l=(t.step (w.heap.words.length:Int)).l:=Z0y _
 have s3:(spT2 w t).at'≤(spT3 w t).at'∧(spT3 w t).at'≤(spT2 w t).at'+1∧(spT3 w t).l=(spT2 w t).l:=Z0y _
 have k1:=Z0T ht s1.2.2 (by omega) (by omega)
 have k2:TOk (spT2 w t):=Z0T k1 s2.2.2 (by omega) (by omega)
 have k3:TOk (spT3 w t):=Z0T k2 s3.2.2 (by omega) (by omega)
 have a1:=area hm.hv
 have a2:=validB_iff.1 hm.hv
 have a3:=hm.L
 have a4:=hm.pl
 have hw:=hm.words
 have n1:=Z0d t (n:=(w.heap.words.length:Int)) (by omega)
 have n2:=Z0d (t.step (w.heap.words.length:Int)) (n:=(w.heap.pages.length:Int)) (by omega)
 have n3:=Z0d (spT3 w t) (n:=3) (by omega)
 rw[e7,e8]
 unfold spT3 spT2 at *
 exact lF Tryz.func40 [] (Fs 11 (List.map wdv []) (Fa (by(simp[spV,spQ,spPg,spI,spP,spT3,spT2,spList, *];omega):(List.map wdv []).length+(List.map wdv w.heap.words).length≤2^30) (Fs 14 (List.map wdv w.heap.words) (Fs 15 (List.map Page.dv []) (Fa (by(simp[spV,spQ,spPg,spI,spP,spT3,spT2,spList, *];omega):(List.map Page.dv []).length+(List.map Page.dv w.heap.pages).length≤2^30) (Fs 18 (List.map Page.dv w.heap.pages) (Fl 24 wdv w.heap.words (Fp 25 (@Z0e t ((↑w.heap.words.length:Int)) ‹_› (by omega) (by omega)) (Fl 29 Page.dv w.heap.pages (Fp 30 (@Z0e (t.step (↑w.heap.words.length:Int)) ((↑w.heap.pages.length:Int)) ‹_› (by omega) (by omega)) (Fp 32 (@Z0M ((t.step (↑w.heap.words.length:Int)).step (↑w.heap.pages.length:Int)) (7) ‹_› ‹_›) (Fp 106 (@Z0e (((t.step (↑w.heap.words.length:Int)).step (↑w.heap.pages.length:Int)).step 12) (3) ‹_› (by omega) (by omega)) Fz))))))))))))
theorem Zmk(hd:(spT2 w t).next 12=8):LentSpec Tryz.prog 40 [w.av,.pt 0 0 0] [t.b] (w.spoil t).av [(w.spoilT t).b]:=by
 have e7:w.spoil t=⟨⟨w.heap.conf,w.heap.words,w.heap.pages,w.heap.space,(spT3 w t).next ((w.heap.pages.length+2:Nat):Int)-1⟩,w.strong,w.weak⟩:=by simp[WorldM.spoil,spH,hd]
 have e8:w.spoilT t=(spT3 w t).step ((w.heap.pages.length+2:Nat):Int):=by simp[WorldM.spoilT,spN,hd]
 have s1:=Z0y (t:=t) (w.heap.words.length:Int)
 have s2:(t.step (w.heap.words.length:Int)).at'≤(spT2 w t).at'∧(spT2 w t).at'≤(t.step (w.heap.words.length:Int)).at'+1∧(spT2 w t).l=(t.step (w.heap.words.length:Int)).l:=Z0y _
 have s3:(spT2 w t).at'≤(spT3 w t).at'∧(spT3 w t).at'≤(spT2 w t).at'+1∧(spT3 w t).l=(spT2 w t).l:=Z0y _
 have k1:=Z0T ht s1.2.2 (by omega) (by omega)
 have k2:TOk (spT2 w t):=Z0T k1 s2.2.2 (by omega) (by omega)
 have k3:TOk (spT3 w t):=Z0T k2 s3.2.2 (by omega) (by omega)
 have a1:=area hm.hv
 have a2:=validB_iff.1 hm.hv
 have a3:=hm.L
 have a4:=hm.pl
 have hw:=hm.words
 have n1:=Z0d t (n:=(w.heap.words.length:Int)) (by omega)
 have n2:=Z0d (t.step (w.heap.words.length:Int)) (n:=(w.heap.pages.length:Int)) (by omega)
 have n3:=Z0d (spT3 w t) (n:=((w.heap.pages.length+2:Nat):Int)) (by omega)
 rw[e7,e8]
 unfold spT3 spT2 at *
 exact lF Tryz.func40 [] (Fs 11 (List.map wdv []) (Fa (by(simp[spV,spQ,spPg,spI,spP,spT3,spT2,spList, *];omega):(List.map wdv []).length+(List.map wdv w.heap.words).length≤2^30) (Fs 14 (List.map wdv w.heap.words) (Fs 15 (List.map Page.dv []) (Fa (by(simp[spV,spQ,spPg,spI,spP,spT3,spT2,spList, *];omega):(List.map Page.dv []).length+(List.map Page.dv w.heap.pages).length≤2^30) (Fs 18 (List.map Page.dv w.heap.pages) (Fl 24 wdv w.heap.words (Fp 25 (@Z0e t ((↑w.heap.words.length:Int)) ‹_› (by omega) (by omega)) (Fl 29 Page.dv w.heap.pages (Fp 30 (@Z0e (t.step (↑w.heap.words.length:Int)) ((↑w.heap.pages.length:Int)) ‹_› (by omega) (by omega)) (Fp 32 (@Z0M ((t.step (↑w.heap.words.length:Int)).step (↑w.heap.pages.length:Int)) (8) ‹_› ‹_›) (Fl 113 Page.dv w.heap.pages (Fw 114 ((↑w.heap.pages.length:Int)+2) (↑(w.heap.pages.length+2):Int) (Fp 115 (@Z0e (((t.step (↑w.heap.words.length:Int)).step (↑w.heap.pages.length:Int)).step 12) ((↑(w.heap.pages.length+2):Int)) ‹_› (by omega) (by omega)) (Fi 116 ((((t.step (↑w.heap.words.length:Int)).step (↑w.heap.pages.length:Int)).step 12).next (↑(w.heap.pages.length+2):Int)-1) Fz)))))))))))))))
theorem Zmh(hd:(spT2 w t).next 12=9):LentSpec Tryz.prog 40 [w.av,.pt 0 0 0] [t.b] (w.spoil t).av [(w.spoilT t).b]:=by
 have e7:w.spoil t=⟨⟨⟨w.heap.conf.pw+4,w.heap.conf.pg⟩,w.heap.words,w.heap.pages,w.heap.space,w.heap.bump⟩,w.strong,w.weak⟩:=by simp[WorldM.spoil,spH,hd]
 have e8:w.spoilT t=spT3 w t:=by simp[WorldM.spoilT,spN,hd]
 have s1:=Z0y (t:=t) (w.heap.words.length:Int)
 have s2:(t.step (w.heap.words.length:Int)).at'≤(spT2 w t).at'∧(spT2 w t).at'≤(t.step (w.heap.words.length:Int)).at'+1∧(spT2 w t).l=(t.step (w.heap.words.length:Int)).l:=Z0y _
 have s3:(spT2 w t).at'≤(spT3 w t).at'∧(spT3 w t).at'≤(spT2 w t).at'+1∧(spT3 w t).l=(spT2 w t).l:=Z0y _
 have k1:=Z0T ht s1.2.2 (by omega) (by omega)
 have k2:TOk (spT2 w t):=Z0T k1 s2.2.2 (by omega) (by omega)
 have k3:TOk (spT3 w t):=Z0T k2 s3.2.2 (by omega) (by omega)
 have a1:=area hm.hv
 have a2:=validB_iff.1 hm.hv
 have a3:=hm.L
 have a4:=hm.pl
 have hw:=hm.words
 have n1:=Z0d t (n:=(w.heap.words.length:Int)) (by omega)
 have n2:=Z0d (t.step (w.heap.words.length:Int)) (n:=(w.heap.pages.length:Int)) (by omega)
 rw[e7,e8]
 unfold spT3 spT2 at *
 exact lF Tryz.func40 [] (Fs 11 (List.map wdv []) (Fa (by(simp[spV,spQ,spPg,spI,spP,spT3,spT2,spList, *];omega):(List.map wdv []).length+(List.map wdv w.heap.words).length≤2^30) (Fs 14 (List.map wdv w.heap.words) (Fs 15 (List.map Page.dv []) (Fa (by(simp[spV,spQ,spPg,spI,spP,spT3,spT2,spList, *];omega):(List.map Page.dv []).length+(List.map Page.dv w.heap.pages).length≤2^30) (Fs 18 (List.map Page.dv w.heap.pages) (Fl 24 wdv w.heap.words (Fp 25 (@Z0e t ((↑w.heap.words.length:Int)) ‹_› (by omega) (by omega)) (Fl 29 Page.dv w.heap.pages (Fp 30 (@Z0e (t.step (↑w.heap.words.length:Int)) ((↑w.heap.pages.length:Int)) ‹_› (by omega) (by omega)) (Fp 32 (@Z0M ((t.step (↑w.heap.words.length:Int)).step (↑w.heap.pages.length:Int)) (9) ‹_› ‹_›) (Fi 123 (w.heap.conf.pw+4) Fz))))))))))))
theorem Zlj(hd:(spT2 w t).next 12=10):LentSpec Tryz.prog 40 [w.av,.pt 0 0 0] [t.b] (w.spoil t).av [(w.spoilT t).b]:=by
 have e7:w.spoil t=⟨⟨w.heap.conf,w.heap.words,w.heap.pages.drop 1,w.heap.space,w.heap.bump⟩,w.strong,w.weak⟩:=by simp[WorldM.spoil,spH,hd]
 have e8:w.spoilT t=spT3 w t:=by simp[WorldM.spoilT,spN,hd]
 have s1:=Z0y (t:=t) (w.heap.words.length:Int)
 have s2:(t.step (w.heap.words.length:Int)).at'≤(spT2 w t).at'∧(spT2 w t).at'≤(t.step (w.heap.words.length:Int)).at'+1∧(spT2 w t).l=(t.step (w.heap.words.length:Int)).l:=Z0y _
 have s3:(spT2 w t).at'≤(spT3 w t).at'∧(spT3 w t).at'≤(spT2 w t).at'+1∧(spT3 w t).l=(spT2 w t).l:=Z0y _
 have k1:=Z0T ht s1.2.2 (by omega) (by omega)
 have k2:TOk (spT2 w t):=Z0T k1 s2.2.2 (by omega) (by omega)
 have k3:TOk (spT3 w t):=Z0T k2 s3.2.2 (by omega) (by omega)
 have a1:=area hm.hv
 have a2:=validB_iff.1 hm.hv
 have a3:=hm.L
 have a4:=hm.pl
 have hw:=hm.words
 have n1:=Z0d t (n:=(w.heap.words.length:Int)) (by omega)
 have n2:=Z0d (t.step (w.heap.words.length:Int)) (n:=(w.heap.pages.length:Int)) (by omega)
 have hq:List.take ((↑(List.map Page.dv w.heap.pages).length:Int).toNat-Int.toNat 1) (List.drop (Int.toNat 1) (List.map Page.dv w.heap.pages))=List.map Page.dv (w.heap.pages.drop 1):=by
  show List.take _ (List.drop 1 (List.map Page.dv w.heap.pages))=_
  rw[← List.map_drop]
  exact List.take_of_length_le (by simp)
 rw[e7,e8]
 unfold spT3 spT2 at *
 exact lF Tryz.func40 [true] (Fs 11 (List.map wdv []) (Fa (by(simp[spV,spQ,spPg,spI,spP,spT3,spT2,spList, *];omega):(List.map wdv []).length+(List.map wdv w.heap.words).length≤2^30) (Fs 14 (List.map wdv w.heap.words) (Fs 15 (List.map Page.dv []) (Fa (by(simp[spV,spQ,spPg,spI,spP,spT3,spT2,spList, *];omega):(List.map Page.dv []).length+(List.map Page.dv w.heap.pages).length≤2^30) (Fs 18 (List.map Page.dv w.heap.pages) (Fl 24 wdv w.heap.words (Fp 25 (@Z0e t ((↑w.heap.words.length:Int)) ‹_› (by omega) (by omega)) (Fl 29 Page.dv w.heap.pages (Fp 30 (@Z0e (t.step (↑w.heap.words.length:Int)) ((↑w.heap.pages.length:Int)) ‹_› (by omega) (by omega)) (Fp 32 (@Z0M ((t.step (↑w.heap.words.length:Int)).step (↑w.heap.pages.length:Int)) (10) ‹_› ‹_›) (Fa (by(simp only[List.length_map];omega):(0:Int)≤(1:Int)∧1≤(↑(List.map Page.dv w.heap.pages).length:Int)) (Fr w.heap.conf.pw (Fr w.heap.conf.pg (Fr (List.map wdv w.heap.words) (Fa (by exact hq:List.take ((↑(List.map Page.dv w.heap.pages).length:Int).toNat-Int.toNat 1) (List.drop (Int.toNat 1) (List.map Page.dv w.heap.pages))=List.map Page.dv (WorldM.mk (Heap.mk w.heap.conf w.heap.words (List.drop 1 w.heap.pages) w.heap.space w.heap.bump) w.strong w.weak).heap.pages) (Fr w.heap.space (Fr w.heap.bump (Fr (List.map wdv w.strong) (Fr (List.map wdv w.weak) Fz))))))))))))))))))))
theorem Zl8(hd:(spT2 w t).next 12=11):LentSpec Tryz.prog 40 [w.av,.pt 0 0 0] [t.b] (w.spoil t).av [(w.spoilT t).b]:=by
 have e7:w.spoil t=⟨⟨w.heap.conf,w.heap.words,w.heap.pages.map pinQ,w.heap.space,w.heap.bump⟩,w.strong,w.weak⟩:=by simp[WorldM.spoil,spH,hd]
 have e8:w.spoilT t=spT3 w t:=by simp[WorldM.spoilT,spN,hd]
 have s1:=Z0y (t:=t) (w.heap.words.length:Int)
 have s2:(t.step (w.heap.words.length:Int)).at'≤(spT2 w t).at'∧(spT2 w t).at'≤(t.step (w.heap.words.length:Int)).at'+1∧(spT2 w t).l=(t.step (w.heap.words.length:Int)).l:=Z0y _
 have s3:(spT2 w t).at'≤(spT3 w t).at'∧(spT3 w t).at'≤(spT2 w t).at'+1∧(spT3 w t).l=(spT2 w t).l:=Z0y _
 have k1:=Z0T ht s1.2.2 (by omega) (by omega)
 have k2:TOk (spT2 w t):=Z0T k1 s2.2.2 (by omega) (by omega)
 have k3:TOk (spT3 w t):=Z0T k2 s3.2.2 (by omega) (by omega)
 have a1:=area hm.hv
 have a2:=validB_iff.1 hm.hv
 have a3:=hm.L
 have a4:=hm.pl
 have hw:=hm.words
 have n1:=Z0d t (n:=(w.heap.words.length:Int)) (by omega)
 have n2:=Z0d (t.step (w.heap.words.length:Int)) (n:=(w.heap.pages.length:Int)) (by omega)
 rw[e7,e8]
 unfold spT3 spT2 at *
 exact lF Tryz.func40 [] (Fs 11 (List.map wdv []) (Fa (by(simp[spV,spQ,spPg,spI,spP,spT3,spT2,spList, *];omega):(List.map wdv []).length+(List.map wdv w.heap.words).length≤2^30) (Fs 14 (List.map wdv w.heap.words) (Fs 15 (List.map Page.dv []) (Fa (by(simp[spV,spQ,spPg,spI,spP,spT3,spT2,spList, *];omega):(List.map Page.dv []).length+(List.map Page.dv w.heap.pages).length≤2^30) (Fs 18 (List.map Page.dv w.heap.pages) (Fl 24 wdv w.heap.words (Fp 25 (@Z0e t ((↑w.heap.words.length:Int)) ‹_› (by omega) (by omega)) (Fl 29 Page.dv w.heap.pages (Fp 30 (@Z0e (t.step (↑w.heap.words.length:Int)) ((↑w.heap.pages.length:Int)) ‹_› (by omega) (by omega)) (Fp 32 (@Z0M ((t.step (↑w.heap.words.length:Int)).step (↑w.heap.pages.length:Int)) (11) ‹_› ‹_›) (Fu (@ZkF w (((t.step (↑w.heap.words.length:Int)).step (↑w.heap.pages.length:Int)).step 12) (by omega)) Fz))))))))))))
theorem Zgr:LentSpec Tryz.prog 40 [w.av,.pt 0 0 0] [t.b] (w.spoil t).av [(w.spoilT t).b]:=by
 have n:=Z0d (spT2 w t) (n:=12) (by decide)
 have hd:(spT2 w t).next 12=0∨(spT2 w t).next 12=1∨(spT2 w t).next 12=2∨(spT2 w t).next 12=3∨(spT2 w t).next 12=4∨(spT2 w t).next 12=5∨(spT2 w t).next 12=6∨(spT2 w t).next 12=7∨(spT2 w t).next 12=8∨(spT2 w t).next 12=9∨(spT2 w t).next 12=10∨(spT2 w t).next 12=11:=by omega
 rcases hd with hd | hd | hd | hd | hd | hd | hd | hd | hd | hd | hd | hd
 ·exact ZmB w t hm ht ha hus hd
 ·exact Zna w t hm ht ha hus hd
 ·exact ZmX w t hm ht ha hus hd
 ·exact Zmv w t hm ht ha hus hd
 ·exact ZmY w t hm ht ha hus hd
 ·exact Znc w t hm ht ha hus hd
 ·exact ZmV w t hm ht ha hus hd
 ·exact ZmA w t hm ht ha hus hd
 ·exact Zmk w t hm ht ha hus hd
 ·exact Zmh w t hm ht ha hus hd
 ·exact Zlj w t hm ht ha hus hd
 ·exact Zl8 w t hm ht ha hus hd
end
structure HOk (h:Heap):Prop where
 w:WOk h.words
 wl:h.words.length≤1048576
 pl:h.pages.length≤1048576
theorem Zd2(n:Int):0≤IntKind.u64.wrap n∧IntKind.u64.wrap n≤18446744073709551615:=by
 unfold IntKind.wrap
 simp only[IntKind.signed,IntKind.bits,Bool.false_and,Bool.false_eq_true,if_false]
 omega
theorem ZfZ{w:WorldM}(hw:WOk w.heap.words)(t:Tape)(d:Int):0≤spV w t d∧spV w t d≤18446744073709551615:=by
 unfold spV
 split
 ·have h:∀ x∈spList,0≤x∧x≤18446744073709551615:=by
   intro x hx
   simp only[spList,List.mem_cons,List.not_mem_nil,or_false]at hx
   omega
  exact Z3L h _
 ·exact Zd2 _
theorem ZiQ{w:WorldM}(hm:MOk w 1000)(t:Tape):HOk (w.spoil t).heap:=by
 have a1:=area hm.hv
 have a2:=validB_iff.1 hm.hv
 have a3:=hm.L
 have a4:=hm.pl
 unfold WorldM.spoil spH
 simp only
 split
 ·refine⟨fun x hx=>?_,by simp only[List.length_set];omega,by simp only;omega⟩
  rcases List.mem_or_eq_of_mem_set hx with hx | rfl
  ·exact hm.words x hx
  ·exact ZfZ hm.words _ _
 ·split
  ·exact⟨hm.words,by simp only;omega,by simp only[List.length_set];omega⟩
  ·split
   ·exact⟨hm.words,by simp only;omega,by simp only;omega⟩
   ·split
    ·exact⟨hm.words,by simp only;omega,by simp only;omega⟩
    ·split
     ·exact⟨hm.words,by simp only;omega,by simp only;omega⟩
     ·split
      ·exact⟨hm.words,by simp only;omega,by simp only[List.length_drop];omega⟩
      ·exact⟨hm.words,by simp only;omega,by simp only[List.length_map];omega⟩
def hAwake9:Heap:=(⟨⟨16,8⟩,List.replicate 128 0,List.replicate 8 ⟨0,0,0,0⟩,0,-1⟩:Heap)
theorem Z9U:WOk hAwake9.words∧Z0q hAwake9=⟨0,0,0⟩∧Z0q noHeap=⟨1,0,0⟩:=by
 refine⟨?_, ?_, ?_⟩
 ·unfold WOk hAwake9
  decide+kernel
 ·decide+kernel
 ·decide+kernel
theorem Znp:GSpec Tryz.prog 44 [(⟨⟨16,8⟩,List.replicate 128 0,List.replicate 8 ⟨0,0,0,0⟩,0,-1⟩:Heap).av] true (bool true) []:=by
 obtain⟨f1,f2,f3⟩:=Z9U
 have:=Z7q hAwake9 f1
 rw[f2]at this
 exact this
theorem Zge{ρ:Rho}{w:World}{Im:Nat→Prop}{v:Value}(s:Nat)(h:Rel ρ w Im (.d (.sl 0 [])) v):Rel ρ w Im (.d (.sl s [])) v:=by
 cases h with
 | d h =>
  cases h with
  | slNil=>exact .d (.slNil _ _ _)
  | sl _ _ p n c f hn=>cases hn;exact .d (.slNil _ _ _)
theorem ZgV:GSpec Tryz.prog 42 [.ag [int 0,int 0,.d (.sl 0 []),.d (.sl 0 []),int 0,int 0]] true (Finding.av ⟨1,0,0⟩) []:=by
 intro w Im vs hIm hsz h
 refine Z5R noHeap (by intro x hx;simp[noHeap]at hx) (by decide+kernel) w Im vs hIm hsz (fun i x v hx hv=>?_)
 rcases i with _ | i
 ·cases hx
  obtain⟨cs,rfl,h2,h3,h4⟩:=Z2U (h 0 _ v rfl hv)
  refine .ag _ _ h2 h3 (fun i a u ha hu=>?_)
  rcases i with _ | _ | _ | _ | _ | _ | i
  ·cases ha;exact h4 0 _ u rfl hu
  ·cases ha;exact h4 1 _ u rfl hu
  ·cases ha;exact Zge 1 (h4 2 _ u rfl hu)
  ·cases ha;exact Zge 4 (h4 3 _ u rfl hu)
  ·cases ha;exact h4 4 _ u rfl hu
  ·cases ha;exact h4 5 _ u rfl hu
  ·cases (show(none:Option AV)=some a from ha)
 ·simp at hx
theorem Zgo:GSpec Tryz.prog 46 [] true (bool true) []:=by
 exact gF [] Tryz.func46 [] (Fc 5 (@Zjj) (Fc 9 (@Znp) (FcG 12 true (fun hg=>by(try simp only[bs]at hg);exact @ZgV) Fz)))
theorem Zgp(raw:Heap)(refs tape odd:List Int)(hw:WOk raw.words)(hr1:refs.length≤140737488355328)(hr2:WOk refs)(h1:tape.length≤140737488355328)(h2:odd.length≤140737488355328):GSpec Tryz.prog 10 [raw.av,Z01 refs,Z0D tape,Z0D odd] true (bool true) []:=by
 have hm:=Zjw tape
 have ht:TOk ⟨odd,0⟩:=by simp[TOk];omega
 have hus:∀ j,j<(Z1p tape).heap.pages.length→-1099511627776≤((Z1p tape).heap.pages.getD j default).used∧((Z1p tape).heap.pages.getD j default).used≤1099511627776:=fun j hj=>by
  have:=hm.us j hj;omega
 have hw1:=hm.words
 have hw2:=(ZiQ hm ⟨odd,0⟩).w
 have hsl:=hm.sl
 by_cases hc:refs.length≤100
 ·by_cases hl:raw.words.length≤5000∧raw.pages.length≤100
  ·exact gF [] Tryz.func10 [false,false,false,false,false,false,false,false,false,false,false,false,false,false,false,false,false,false,false,false,false,false,false,false,false,false,false,false,false,false,true] (Fl 12 wdv refs (FcG 16 (!decide (100<(↑refs.length:Int))) (fun hg=>by(try simp only[bs]at hg);exact @Z7S raw) (Ffb 18 (decide (100<(↑refs.length:Int))||!decide (raw.words.length≤5000∧raw.pages.length≤100)) (Fc 20 (@Ziz tape ‹_›) (Fp 25 (@Zgr (Z1p tape) (Tape.mk odd 0) ‹_› ‹_› (by(simp only[bs];omega)) ‹_›) (Fc 26 (@Zgo) (FcG 30 true (fun hg=>by(try simp only[bs]at hg);exact @auditRefers raw refs (by(try simp only[bs]at hg);assumption) (by(try simp only[bs]at hg);omega)) (FcG 33 true (fun hg=>by(try simp only[bs]at hg);exact @Z1k raw refs (by(try simp only[bs]at hg);assumption) (by(try simp only[bs]at hg);omega)) (FcG 40 (true&&Z0c raw refs==Z0c raw refs) (fun hg=>by(try simp only[bs]at hg);exact @auditRefers ((Z1p tape).heap) refs (by(try simp only[bs]at hg);assumption) (by(try simp only[bs]at hg);omega)) (FcG 44 (true&&Z0c raw refs==Z0c raw refs) (fun hg=>by(try simp only[bs]at hg);exact @Z1k ((Z1p tape).heap) refs (by(try simp only[bs]at hg);assumption) (by(try simp only[bs]at hg);omega)) (FcG 52 (true&&Z0c raw refs==Z0c raw refs&&Z0c (Z1p tape).heap refs==Z0c (Z1p tape).heap refs) (fun hg=>by(try simp only[bs]at hg);exact @auditRefers (((Z1p tape).spoil (Tape.mk odd 0)).heap) ((Z1p tape).strong) (by(try simp only[bs]at hg);assumption) (by(try simp only[bs]at hg);omega)) (FcG 57 (true&&Z0c raw refs==Z0c raw refs&&Z0c (Z1p tape).heap refs==Z0c (Z1p tape).heap refs) (fun hg=>by(try simp only[bs]at hg);exact @Z1k (((Z1p tape).spoil (Tape.mk odd 0)).heap) ((Z1p tape).strong) (by(try simp only[bs]at hg);assumption) (by(try simp only[bs]at hg);omega)) (Fa (by simp only[bs, *,true_or,or_true,true_and,and_true,not_true_eq_false,not_false_eq_true,Bool.true_eq_false,Bool.false_eq_true]:(Z0c raw refs==Z0c raw refs&&Z0c (Z1p tape).heap refs==Z0c (Z1p tape).heap refs&&Z0c ((Z1p tape).spoil (Tape.mk odd 0)).heap (Z1p tape).strong==Z0c ((Z1p tape).spoil (Tape.mk odd 0)).heap (Z1p tape).strong)=true) Fz)))))))))))))
  ·exact gF [] Tryz.func10 [] (Fl 12 wdv refs (FcG 16 (!decide (100<(↑refs.length:Int))) (fun hg=>by(try simp only[bs]at hg);exact @Z7S raw) (Ftb 18 (decide (100<(↑refs.length:Int))||!decide (raw.words.length≤5000∧raw.pages.length≤100)) Fz)))
 ·exact gF [] Tryz.func10 [] (Fl 12 wdv refs (FcG 16 (!decide (100<(↑refs.length:Int))) (fun hg=>by(try simp only[bs]at hg);exact @Z7S raw) (Ftb 18 (decide (100<(↑refs.length:Int))||!decide (raw.words.length≤5000∧raw.pages.length≤100)) Fz)))
end Go.Proofs.YtolnblaadleknaaGreat
namespace Go.Proofs.YtolnblaadleknaaGreat
open Go.Sx Go.RowKit
theorem Z5O(os:Os)(started:os.Started)(H:Type)(enc:TypeId×Value→H) :
  ReturnsInHanded {} Tryz.checked os 10 .any (Rows.auditRefersSpec.pre6 enc Tryz.prog Tryz.f10 Rows.auditRefersRow.domain false) (Rows.auditRefersSpec.post enc Tryz.prog Tryz.f10 false true false false):=by
 refine Zbt (C:=Tryz.checked) (tb:=4) 5 own0 started (by kernel_rfl) Tryz.func10
  (ChangeSpec.witness6 (enc:=enc) (C:=Tryz.checked) false ⟨#[],#[.agg #[.int .i64 0,.int .i64 0,.slice none 0 0,.slice none 0 0,.int .i64 0,.int .i64 0],.slice none 0 0,.slice none 0 0,.slice none 0 0],[]⟩ 8 (by kernel_rfl) (by kernel_rfl) (by kernel_rfl) (by kernel_rfl))
  ZjD (by kernel_rfl) (by kernel_rfl) (by kernel_rfl) (by kernel_rfl) rfl (fun ds hd=>?_) (fun ls hl h=>?_)
 ·match ds,hd with
  | [a0,a1,a2,a3],_=>rfl
 ·match ls,hl with
  | [l0,l1,l2,l3],_ =>
   obtain⟨raw,rfl,hraw⟩:=Zip (n:=1) (h 0 28 l0 (by kernel_rfl) rfl)
   obtain⟨refs,rfl,hrefs,krefs⟩:=ZbP (n:=3) (h 1 25 l1 (by kernel_rfl) rfl)
   obtain⟨tape,rfl,htape⟩:=ZdS (n:=3) (h 2 22 l2 (by kernel_rfl) rfl)
   obtain⟨odd,rfl,hodd⟩:=ZdS (n:=3) (h 3 22 l3 (by kernel_rfl) rfl)
   have e:Zaz Tryz.prog Tryz.f10.params.toList [Zmu raw,[.sl 1 (refs.map wdv)],[.sl 1 (tape.map idv)],[.sl 1 (odd.map idv)]]=[raw.av,Z01 refs,Z0D tape,Z0D odd]:=by kernel_rfl
   exact⟨true,e▸Zgp raw refs tape odd hraw hrefs krefs htape hodd⟩
theorem Z8E:(Rows.auditRefersRow.inPlace==Tryz.prog.inPlace 10)=true:=by kernel_rfl
theorem Z8s:(Rows.auditRefersRow.unfollowed==Tryz.prog.unfollowed 10)=true:=by kernel_rfl
theorem Z8O:(Rows.auditRefersRow.recurses==Tryz.prog.recurses 10)=true:=by kernel_rfl
theorem Z8A:(Rows.auditRefersRow.named==Tryz.prog.varsNamed 10)=true:=by kernel_rfl
theorem Z5z:joinedFacts Tryz.prog 10 Tryz.f10 Rows.auditRefersSpec Rows.auditRefersRow=true:=by
 unfold joinedFacts
 rw[Z8E,Z8s,Z8O,Z8A]
 kernel_rfl
theorem auditRefers_holds:Rows.AuditRefersSaid :=
 OpenClaim.holds_of_wide 10 Tryz.f10 rfl rfl rfl rfl rfl rfl rfl ⟨rfl,rfl,rfl,rfl,rfl⟩ rfl rfl rfl rfl rfl (by kernel_rfl) Tryz.func10 Z5z
  (of_decide_eq_true (by kernel_rfl)) (by unfold Func.isWrapper;first | (rw[if_pos (by decide+kernel)];kernel_rfl) | (rw[if_neg (by decide+kernel)];exact⟨rfl,rfl⟩))
  (fun os started H enc _=>Z5O os started H enc)
end Go.Proofs.YtolnblaadleknaaGreat
