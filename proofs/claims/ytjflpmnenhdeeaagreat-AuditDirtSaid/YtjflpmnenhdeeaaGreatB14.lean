/-
 The statement AuditDirt: part 14.
 Conditions: none.
-/
import Derived.Test.YtjflpmnenhdeeaaGreatB13
set_option maxRecDepth 100000
set_option maxHeartbeats 2000000
set_option linter.all false
namespace Go.Proofs.YtjflpmnenhdeeaaGreat
open Go.Sx
theorem ZlW{l:List Int}{k:Nat}{v:Int}(h:WOk l)(hv:0≤v∧v≤18446744073709551615):WOk (l.set k v):=by
 intro x hx
 rcases List.mem_or_eq_of_mem_set hx with q | q
 ·exact h x q
 ·subst q;exact hv
theorem Zmu(tape:List Int)(which offset v:Int)(h1:tape.length≤140737488355328)(h2:-9223372036854775808≤which∧which≤9223372036854775807)(h3:-9223372036854775808≤offset∧offset≤9223372036854775807)(h4:0≤v∧v≤18446744073709551615):GSpec Tryz.prog 6 [Z0P tape,int which,int offset,u64 v] true (bool true) []:=by
 have hm:=ZiQ tape
 have hw:=hm.words
 obtain⟨T,g,_,_⟩:=ZiV tape
 have po:=Z07 g.p
 have r1:=Z57 which (n:=(Z09 tape).heap.pages.length) (by omega)
 have r2:=Z57 offset (n:=(Z09 tape).heap.conf.pw) (by omega)
 have ei1:IntKind.i64.wrap (which.tmod (Z09 tape).heap.pages.length+(Z09 tape).heap.pages.length)=which.tmod (Z09 tape).heap.pages.length+(Z09 tape).heap.pages.length:=wrapI' (by omega) (by omega)
 have ej2:=Z8C which (n:=(Z09 tape).heap.pages.length) (by omega)
 have ei2:(which.tmod (Z09 tape).heap.pages.length+(Z09 tape).heap.pages.length)%(Z09 tape).heap.pages.length=which%(Z09 tape).heap.pages.length:=(ZkD (by omega)).symm.trans ej2
 have ei3:IntKind.i64.wrap (offset.tmod (Z09 tape).heap.conf.pw+(Z09 tape).heap.conf.pw)=offset.tmod (Z09 tape).heap.conf.pw+(Z09 tape).heap.conf.pw:=wrapI' (by omega) (by omega)
 have ej4:=Z8C offset (n:=(Z09 tape).heap.conf.pw) (by omega)
 have ei4:(offset.tmod (Z09 tape).heap.conf.pw+(Z09 tape).heap.conf.pw)%(Z09 tape).heap.conf.pw=offset%(Z09 tape).heap.conf.pw:=(ZkD (by omega)).symm.trans ej4
 have q1:=Int.emod_nonneg which (b:=(Z09 tape).heap.pages.length) (by omega)
 have q2:=Int.emod_lt_of_pos which (b:=(Z09 tape).heap.pages.length) (by omega)
 have q3:=Int.emod_nonneg offset (b:=(Z09 tape).heap.conf.pw) (by omega)
 have q4:=Int.emod_lt_of_pos offset (b:=(Z09 tape).heap.conf.pw) (by omega)
 by_cases hk:((Z09 tape).heap.pages.getD (which%(Z09 tape).heap.pages.length).toNat default).kind=0∧v≠0
 ·have hil:(which%(Z09 tape).heap.pages.length).toNat<(Z09 tape).heap.pages.length:=by omega
  have z:=Z8n g hil hk.1 ⟨q3,q4⟩
  have hws:=ZlW (k:=(bsP (Z09 tape).heap (which%(Z09 tape).heap.pages.length).toNat+offset%(Z09 tape).heap.conf.pw-4096).toNat) hw h4
  have e7:=ZcY g hil hk.1 ⟨q3,q4⟩ hk.2
  have hin:(((which%(Z09 tape).heap.pages.length).toNat:Nat):Int)=which%(Z09 tape).heap.pages.length:=by omega
  have ei5:(address (Z09 tape).heap.conf (which%(Z09 tape).heap.pages.length) (offset%(Z09 tape).heap.conf.pw)).1=bsP (Z09 tape).heap (which%(Z09 tape).heap.pages.length).toNat+offset%(Z09 tape).heap.conf.pw:=by
   unfold address
   rw[if_pos po.1,if_pos (inB_iff.2 ⟨by omega,by omega,by omega,by omega⟩)]
   unfold bsP
   simp only
   rw[Int.add_assoc,hin]
  have ei6:IntKind.u64.wrap (bsP (Z09 tape).heap (which%(Z09 tape).heap.pages.length).toNat+offset%(Z09 tape).heap.conf.pw-4096)=bsP (Z09 tape).heap (which%(Z09 tape).heap.pages.length).toNat+offset%(Z09 tape).heap.conf.pw-4096:=wrapU' (by omega) (by omega)
  rw[hin]at e7
  unfold Z1n at e7
  exact gF [] Tryz.func6 [false,false,false,false,false,false,false,false,true] (Fh 10073 [.els (List.map wdv ((Z09 tape).heap.words.set ((address (Z09 tape).heap.conf (which%(↑(Z09 tape).heap.pages.length:Int)) (offset%(Z09 tape).heap.conf.pw)).fst-4096).toNat v))] (Fc 15 (@Ze4 tape ‹_›) (Fl 20 Page.dv (Z09 tape).heap.pages (Fo ((↑(Z09 tape).heap.pages.length:Int)≠0) (Fl 24 Page.dv (Z09 tape).heap.pages (Fi 25 (which.tmod (↑(Z09 tape).heap.pages.length:Int)+(↑(Z09 tape).heap.pages.length:Int)) (Fl 28 Page.dv (Z09 tape).heap.pages (Fgo 29 ((which.tmod (↑(Z09 tape).heap.pages.length:Int)+(↑(Z09 tape).heap.pages.length:Int)).tmod (↑(Z09 tape).heap.pages.length:Int)) (which%(↑(Z09 tape).heap.pages.length:Int)) (Fo ((↑(Z09 tape).heap.pages.length:Int)≠0) (Fo ((Z09 tape).heap.conf.pw≠0) (Fi 38 (offset.tmod (Z09 tape).heap.conf.pw+(Z09 tape).heap.conf.pw) (Fgo 42 ((offset.tmod (Z09 tape).heap.conf.pw+(Z09 tape).heap.conf.pw).tmod (Z09 tape).heap.conf.pw) (offset%(Z09 tape).heap.conf.pw) (Fo ((Z09 tape).heap.conf.pw≠0) (Fek 46 Page.dv ((Z09 tape).heap.pages) (which%(↑(Z09 tape).heap.pages.length:Int)) ((which%(↑(Z09 tape).heap.pages.length:Int)).toNat) (Ffb 53 (((Z09 tape).heap.pages.getD (which%(↑(Z09 tape).heap.pages.length:Int)).toNat default).kind != 0||v==0) (Fc 60 (@Z3Z ((Z09 tape).heap.conf) (which%(↑(Z09 tape).heap.pages.length:Int)) (offset%(Z09 tape).heap.conf.pw)) (Fs 63 (List.map wdv []) (Fa (by(simp[e7, *];omega):(List.map wdv []).length+(List.map wdv (Z09 tape).heap.words).length≤2^30) (Fs 66 (List.map wdv (Z09 tape).heap.words) (Fv 71 ((address (Z09 tape).heap.conf (which%(↑(Z09 tape).heap.pages.length:Int)) (offset%(Z09 tape).heap.conf.pw)).fst-4096) (Fa (by(simp only[List.length_map];omega):0≤(address (Z09 tape).heap.conf (which%(↑(Z09 tape).heap.pages.length:Int)) (offset%(Z09 tape).heap.conf.pw)).fst-4096∧((address (Z09 tape).heap.conf (which%(↑(Z09 tape).heap.pages.length:Int)) (offset%(Z09 tape).heap.conf.pw)).fst-4096).toNat<(List.map wdv (Z09 tape).heap.words).length) (Fa (by(simp only[List.length_map];omega):((address (Z09 tape).heap.conf (which%(↑(Z09 tape).heap.pages.length:Int)) (offset%(Z09 tape).heap.conf.pw)).fst-4096).toNat<(List.map wdv (Z09 tape).heap.words).length) (Fa (by simp[e7,List.map_take,List.map_drop,List.map_set,List.map_append,wdv,idv]:(List.map wdv (Z09 tape).heap.words).set ((address (Z09 tape).heap.conf (which%(↑(Z09 tape).heap.pages.length:Int)) (offset%(Z09 tape).heap.conf.pw)).fst-4096).toNat [du64 v]=List.map wdv ((Z09 tape).heap.words.set ((address (Z09 tape).heap.conf (which%(↑(Z09 tape).heap.pages.length:Int)) (offset%(Z09 tape).heap.conf.pw)).fst-4096).toNat v)) (Fc 74 (@ZcQ) (FcG 77 true (fun hg=>by(try simp only[bs]at hg);exact @Z9o (Heap.mk (Z09 tape).heap.conf ((Z09 tape).heap.words.set ((address (Z09 tape).heap.conf (which%(↑(Z09 tape).heap.pages.length:Int)) (offset%(Z09 tape).heap.conf.pw)).fst-4096).toNat v) (Z09 tape).heap.pages (Z09 tape).heap.space (Z09 tape).heap.bump) (by(try simp only[bs]at hg);(simp only[e7];(repeat' split)<;>first | rfl | omega | (exfalso;omega) | simp_all))) (Fa (by(rw[Bool.eq_iff_iff];simp[e7, *];grind):((Z0t (Heap.mk (Z09 tape).heap.conf ((Z09 tape).heap.words.set ((address (Z09 tape).heap.conf (which%(↑(Z09 tape).heap.pages.length:Int)) (offset%(Z09 tape).heap.conf.pw)).fst-4096).toNat v) (Z09 tape).heap.pages (Z09 tape).heap.space (Z09 tape).heap.bump)).fault==4&&((Z0t (Heap.mk (Z09 tape).heap.conf ((Z09 tape).heap.words.set ((address (Z09 tape).heap.conf (which%(↑(Z09 tape).heap.pages.length:Int)) (offset%(Z09 tape).heap.conf.pw)).fst-4096).toNat v) (Z09 tape).heap.pages (Z09 tape).heap.space (Z09 tape).heap.bump)).page==which%(↑(Z09 tape).heap.pages.length:Int)&&(Z0t (Heap.mk (Z09 tape).heap.conf ((Z09 tape).heap.words.set ((address (Z09 tape).heap.conf (which%(↑(Z09 tape).heap.pages.length:Int)) (offset%(Z09 tape).heap.conf.pw)).fst-4096).toNat v) (Z09 tape).heap.pages (Z09 tape).heap.space (Z09 tape).heap.bump)).addr==(address (Z09 tape).heap.conf (which%(↑(Z09 tape).heap.pages.length:Int)) (offset%(Z09 tape).heap.conf.pw)).fst))=true) Fz))))))))))))))))))))))))))
 ·exact gF [] Tryz.func6 [] (Fc 15 (@Ze4 tape ‹_›) (Fl 20 Page.dv (Z09 tape).heap.pages (Fo ((↑(Z09 tape).heap.pages.length:Int)≠0) (Fl 24 Page.dv (Z09 tape).heap.pages (Fi 25 (which.tmod (↑(Z09 tape).heap.pages.length:Int)+(↑(Z09 tape).heap.pages.length:Int)) (Fl 28 Page.dv (Z09 tape).heap.pages (Fgo 29 ((which.tmod (↑(Z09 tape).heap.pages.length:Int)+(↑(Z09 tape).heap.pages.length:Int)).tmod (↑(Z09 tape).heap.pages.length:Int)) (which%(↑(Z09 tape).heap.pages.length:Int)) (Fo ((↑(Z09 tape).heap.pages.length:Int)≠0) (Fo ((Z09 tape).heap.conf.pw≠0) (Fi 38 (offset.tmod (Z09 tape).heap.conf.pw+(Z09 tape).heap.conf.pw) (Fgo 42 ((offset.tmod (Z09 tape).heap.conf.pw+(Z09 tape).heap.conf.pw).tmod (Z09 tape).heap.conf.pw) (offset%(Z09 tape).heap.conf.pw) (Fo ((Z09 tape).heap.conf.pw≠0) (Fek 46 Page.dv ((Z09 tape).heap.pages) (which%(↑(Z09 tape).heap.pages.length:Int)) ((which%(↑(Z09 tape).heap.pages.length:Int)).toNat) (Ftb 53 (((Z09 tape).heap.pages.getD (which%(↑(Z09 tape).heap.pages.length:Int)).toNat default).kind != 0||v==0) (Fc 54 (@ZcQ) Fz)))))))))))))))
end Go.Proofs.YtjflpmnenhdeeaaGreat
namespace Go.Proofs.YtjflpmnenhdeeaaGreat
open Go.Sx Go.RowKit
theorem Z7f(os:Os)(started:os.Started)(H:Type)(enc:TypeId×Value→H) :
  ReturnsInHanded {} Tryz.checked os 6 .any (Rows.auditDirtSpec.pre6 enc Tryz.prog Tryz.f6 Rows.auditDirtRow.domain false) (Rows.auditDirtSpec.post enc Tryz.prog Tryz.f6 false true false false):=by
 refine Zcp (C:=Tryz.checked) (tb:=4) 5 own0 started (by kernel_rfl) Tryz.func6
  (ChangeSpec.witness6 (enc:=enc) (C:=Tryz.checked) false ⟨#[],#[.slice none 0 0,.int .i64 0,.int .i64 0,.int .u64 0],[]⟩ 8 (by kernel_rfl) (by kernel_rfl) (by kernel_rfl) (by kernel_rfl))
  Zjr (by kernel_rfl) (by kernel_rfl) (by kernel_rfl) (by kernel_rfl) rfl (fun ds hd=>?_) (fun ls hl h=>?_)
 ·match ds,hd with
  | [a0,a1,a2,a3],_=>rfl
 ·match ls,hl with
  | [l0,l1,l2,l3],_ =>
   obtain⟨tape,rfl,htape⟩:=Zke (n:=3) (h 0 22 l0 (by kernel_rfl) rfl)
   obtain⟨which,rfl,hwhich⟩:=Ze3 (n:=4) (h 1 3 l1 (by kernel_rfl) rfl)
   obtain⟨offset,rfl,hoffset⟩:=Ze3 (n:=4) (h 2 3 l2 (by kernel_rfl) rfl)
   obtain⟨v,rfl,hv⟩:=Zlx (n:=4) (h 3 39 l3 (by kernel_rfl) rfl)
   have e:Zae Tryz.prog Tryz.f6.params.toList [[.sl 1 (tape.map idv)],[dint which],[dint offset],[du64 v]]=[Z0P tape,int which,int offset,u64 v]:=by kernel_rfl
   exact⟨true,e▸Zmu tape which offset v htape (range_i64 hwhich) (range_i64 hoffset) (range_u64 hv)⟩
theorem ZcI:(Rows.auditDirtRow.inPlace==Tryz.prog.inPlace 6)=true:=by kernel_rfl
theorem ZcO:(Rows.auditDirtRow.unfollowed==Tryz.prog.unfollowed 6)=true:=by kernel_rfl
theorem ZbZ:(Rows.auditDirtRow.recurses==Tryz.prog.recurses 6)=true:=by kernel_rfl
theorem ZcM:(Rows.auditDirtRow.named==Tryz.prog.varsNamed 6)=true:=by kernel_rfl
theorem Z7h:joinedFacts Tryz.prog 6 Tryz.f6 Rows.auditDirtSpec Rows.auditDirtRow=true:=by
 unfold joinedFacts
 rw[ZcI,ZcO,ZbZ,ZcM]
 kernel_rfl
theorem auditDirt_holds:Rows.AuditDirtSaid :=
 OpenClaim.holds_of_wide 6 Tryz.f6 rfl rfl rfl rfl rfl rfl rfl ⟨rfl,rfl,rfl,rfl,rfl⟩ rfl rfl rfl rfl rfl (by kernel_rfl) Tryz.func6 Z7h
  (of_decide_eq_true (by kernel_rfl)) (by unfold Func.isWrapper;first | (rw[if_pos (by decide+kernel)];kernel_rfl) | (rw[if_neg (by decide+kernel)];exact⟨rfl,rfl⟩))
  (fun os started H enc _=>Z7f os started H enc)
end Go.Proofs.YtjflpmnenhdeeaaGreat
