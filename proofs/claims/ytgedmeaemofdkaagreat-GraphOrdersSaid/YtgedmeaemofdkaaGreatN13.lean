/-
 The statement GraphOrders: part 13.
 Conditions: none.
-/
import Derived.Test.YtgedmeaemofdkaaGreatN12
set_option maxRecDepth 100000
set_option maxHeartbeats 2000000
set_option linter.all false
open Inhabited renaming default->M
open List renaming map->La,replicate->Ld,take->Lf,length_map->Li,drop->Lk,getD_eq_getElem?_getD->Ll,length_replicate->Lo,mem_append->Lp,mem_range->Lq,find?_range_eq_some->Ls,length_set->Lt,map_set->Lu,range->Lv,find?_eq_none->Lx,getElem?_eq_getElem->Ly,length_append->Lz,length_take->LA,map_append->LB,map_drop->LC,map_take->LD,mem_append_left->LF,mem_map->LG,mem_or_eq_of_mem_set->LH,mem_replicate->LI,mem_singleton->LL,length->LQ,length_singleton->LR,mem_iff_getElem->LS,mem_of_mem_drop->LU,mem_of_mem_take->LV,take_length->LW
open Bool renaming true->Lb,false->Lc
open Decidable renaming decide->Le,not_not->Lw
open Option renaming some->Lg
open Int renaming toNat->Lh,natCast_mul->LM,tdiv_eq_ediv_of_nonneg->LN,toNat_of_nonneg->LO
open Nat renaming le_refl->Lj,add_mul->LY,le_trans->LZ,mul_le_mul_right->L0,one_mul->L1
open Or renaming inr->Lm,inl->Lr
open Go.IntKind renaming i64->Ln
open Go.Proofs.Tryz
namespace Go.Proofs.YtgedmeaemofdkaaGreat
open Go.Sx
def Zck(ws:List Int)(a n:Int)(hw:ws.length<=1048576)(h0:4096<=a/\0<=n/\n<=1000/\a-4096+n<=ws.length):GP 112 [Z01 ws,u64 a,int n] Lb (.tu [.ow 0,int 0]) [.arr 35 1 (((ws.drop (a-4096).toNat).take n.toNat).map wdv)]:=by
 have ei1:(Z07 ws a n).1=a-4096:=by rw[Z07,if_pos oq]
 have e2:(Z07 ws a n).2=Lb:=by rw[Z07,if_pos oq];simp;omega
 exact gF [40028] func112 [Lc,Lb] (Fh 28 [.els (La wdv (Lf (((Z07 ws a n).1+n).toNat-(Z07 ws a n).1.toNat) (Lk (Z07 ws a n).1.toNat ws)))] (Ffb 11 (Le (n<0)) (Fc 16 (@Z44 ws a n aa oq) (Ffb 20 (!(Z07 ws a n).2) (Fs 21 (La wdv []) (Fi 26 ((Z07 ws a n).1+n) (Fa (by(simp only[Li];omega):0<=(Z07 ws a n).1/\(Z07 ws a n).1<=(Z07 ws a n).1+n/\(Z07 ws a n).1+n<=(↑(La wdv ws).length:Int)) (Fa (by simp[e2,LD,LC,Lu,LB,wdv,idv]:Lf (((Z07 ws a n).1+n).toNat-(Z07 ws a n).1.toNat) (Lk (Z07 ws a n).1.toNat (La wdv ws))=La wdv (Lf (((Z07 ws a n).1+n).toNat-(Z07 ws a n).1.toNat) (Lk (Z07 ws a n).1.toNat ws))) (Fa (by(simp[e2, *];omega):(La wdv []).length+(La wdv (Lf (((Z07 ws a n).1+n).toNat-(Z07 ws a n).1.toNat) (Lk (Z07 ws a n).1.toNat ws))).length<=2^30) (Fs 27 (La wdv (Lf (((Z07 ws a n).1+n).toNat-(Z07 ws a n).1.toNat) (Lk (Z07 ws a n).1.toNat ws))) (Fa (by exact Z2N _:Z15 (La wdv (Lf (((Z07 ws a n).1+n).toNat-(Z07 ws a n).1.toNat) (Lk (Z07 ws a n).1.toNat ws)))) (Fr (35:Int) (Fa (by refine congrArg _ ?_;(simp[e2, *];omega):La wdv (Lf (((Z07 ws a n).1+n).toNat-(Z07 ws a n).1.toNat) (Lk (Z07 ws a n).1.toNat ws))=La wdv (Lf n.toNat (Lk (a-4096).toNat ws))) Fz)))))))))))))
def Z9E(h:Heap)(a:Int)(hw:WOk h.W)(hp:Z03 h=Lb)(ha:a∈(Z04 h).1):GP 45 [h.av,u64 a] Lb (.tu [(atH h a).1.av,int 0]) []:=by
 have g:=(Z4D hp ha).1;have e:=(Z39 g).1;have ox:=Z0T h a ha;have:=Z2X h a hw oq;rw[g,e]at this;exact this
def Z8W(h:Heap)(a:Int)(hw:WOk h.W)(hp:Z03 h=Lb)(ha:a∈(Z04 h).1):GP 56 [h.av,u64 a] Lb (.tu [.ow 0,int 0]) [.arr 35 1 ((fldG h a).map wdv)]:=by
 obtain⟨f1,f2,f3,f4,f5,f6,f7,f8,f9,f10⟩:=Z2R hp ha;have po:=Z0c hp;have gm:=Z2C hw a;rw[f8];exact gF [33023] func56 [] (Fc 11 (@Z9E h a aa aa aa) (Fv 20 (a+1) (Fc 23 (@Zck h.W (a+1) ((atH h a).1.length) oq oq) (Fa (by exact Z2N _:Z15 (La wdv (Lf (atH h a).1.length.toNat (Lk (a+(1:Int)-4096).toNat h.W)))) Fz))))
def numK(l fs:List Int)(hd:Header):Nat->List Int
 | 0=>fs
 | k+1=>if Z0b hd (k:Int)=Lb then(numK l fs hd k).set k (numB l (fs.getD k M))else numK l fs hd k
def Zfy(l fs ps qs:List Int):∀ j,j<=ps.length->numL l fs (ps++qs) j=numL l fs ps j
 | 0,_=>rfl
 | j+1,h=>by
  have e:(ps++qs).getD j M=ps.getD j M:=by
   simp only[Ll];rw[List.getElem?_append_left oq]
  rw[numL,numL,e,Zfy l fs ps qs j oq]
def Zek(l fs:List Int)(hd:Header):∀ n:Nat,numK l fs hd n=numL l fs (Z0F hd n) (Z0F hd n).length
 | 0=>rfl
 | n+1=>by
  unfold numK Z0F;split
  .rw[Lz,LR,numL,Zfy _ _ _ _ _ (Lj _),Zek l fs hd n];have e:(Z0F hd n++[(n:Int)]).getD (Z0F hd n).length M=(n:Int):=by
    simp[Ll]
   rw[e];rfl
  .exact Zek l fs hd n
def Zbu(l fs:List Int)(hd:Header)(i:Nat):∀ k,k<=i->(numK l fs hd k).length=fs.length/\(numK l fs hd k).getD i M=fs.getD i M
 | 0,_=>⟨rfl,rfl⟩
 | k+1,h=>by
  obtain⟨h1,h2⟩:=Zbu l fs hd i k oq;unfold numK;split
  .refine⟨by rw[Lt];exact h1, ?_⟩;simp only[Ll]at h2 ⊢;rw[List.getElem?_set_ne oq];exact h2
  .exact⟨h1,h2⟩
def ZnF{h:Heap}(l:List Int){a:Int}(hp:Z03 h=Lb)(ha:a∈(Z04 h).1):numK l (fldG h a) (atH h a).1 (fldG h a).length=(Z0X h l a).fs:=by
 obtain⟨f1,f2,f3,f4,f5,f6,f7,f8,f9,f10⟩:=Z2R hp ha;have v:=Z39 (Z4D hp ha).1;have e:(fldG h a).length=(atH h a).1.length.toNat:=by omega
 rw[Zek,e];unfold Z0X Z02;have v1:=v.2.2.2.2.2.2.1;rw[v.1]at v1;rw[if_pos v1]
def qgB(h:Heap)(rs:List Int)(ns:List NodeG):List (Nat×Blk):=[(32008,.box 61 [.ow 33008,.ow 34008]),(34008,.arr 120 4 (ns.map NodeG.dv)),(33008,.arr 3 1 (rs.map idv)),(8004,.box 61 [.ow 9004,.ow 10004]),(10004,.arr 120 4 []),(9004,.arr 3 1 []),(8002,.box 28 [int h.C.pw,int h.C.pg,.d (.sl 1 (h.W.map wdv)),.d (.sl 4 (h.P.map Page.dv)),int h.S,int h.B])]
def qgL(h:Heap)(l roots:List Int)(i:Nat):Tg:=⟨tm 96 [(1,Z01 roots),(2,.pt 8002 0 0),(4,.pt 8004 0 0),(5,int 0),(6,Z01 l),(8,.pt 32008 0 0),(9,int i)],qgB h ((roots.take i).map (Z0U l)) [],6⟩
def qiL(h:Heap)(l rs:List Int)(ns:List NodeG)(k:Nat)(a:Int)(j:Nat):Tg:=⟨tm 96 [(2,.pt 8002 0 0),(4,.pt 8004 0 0),(5,int 0),(6,Z01 l),(8,.pt 32008 0 0),(10,int k),(11,.pt 64011 0 0),(13,.ow 73065),(15,int j)],(73065,.arr 35 1 ((numK l (fldG h a) (atH h a).1 j).map wdv))::(64011,.box 52 [int (atH h a).1.K,int (atH h a).1.length,u32 (atH h a).1.map])::qgB h rs ns,11⟩
section
variable (h:Heap) (l rs:List Int) (ns:List NodeG) (k:Nat) (a:Int) (hw:WOk h.W) (hp:Z03 h=Lb) (ha:a∈(Z04 h).1) (hl:l.length<=16384)
include hw hp ha hl
theorem Zmo(j:Nat)(hj:j<(fldG h a).length):CP (rndF f26 4) (qiL h l rs ns k a j).st .nrm (qiL h l rs ns k a (j+1)).st:=by
 obtain⟨f1,f2,f3,f4,f5,f6,f7,f8,f9,f10⟩:=Z2R hp ha;have gm:=Z2C hw a;obtain⟨nl,ng⟩:=Zbu l (fldG h a) (atH h a).1 j j (Lj j);have nr:=Z6D l ((numK l (fldG h a) (atH h a).1 j).getD j M);by_cases c:Z0b (atH h a).1 (j:Int)=Lb
 .have e7:numK l (fldG h a) (atH h a).1 (j+1)=(numK l (fldG h a) (atH h a).1 j).set j (numB l ((numK l (fldG h a) (atH h a).1 j).getD j M)):=by rw[numK,if_pos c,ng]
  unfold qiL qgB;rw[e7];exact sF [] [] (Fh 76 [.call Lb (Sx.bool (Z0b (atH h a).1 (j:Int))) [],.br Lb] (Fh 10086 [.els (La wdv ((numK l (fldG h a) (atH h a).1 j).set (j:Int).toNat (numB l ((numK l (fldG h a) (atH h a).1 j).getD j M))))] (FM 70 71 wdv (numK l (fldG h a) (atH h a).1 j) j (Fa (@Z1j ((atH h a).1) ((j:Int)) aa) (Fa ‹Z0b (atH h a).1 (j:Int)=Lb› (Fm 83 wdv (numK l (fldG h a) (atH h a).1 j) (↑j) j (Fc 84 (@Z9n l ((numK l (fldG h a) (atH h a).1 j).getD j M) oq) (Fv 85 (numB l ((numK l (fldG h a) (atH h a).1 j).getD j M)) (Fa (by(simp only[Li];omega):0<=(j:Int)/\(j:Int).toNat<(La wdv (numK l (fldG h a) (atH h a).1 j)).length) (Fa (by(simp only[Li];omega):(j:Int).toNat<(La wdv (numK l (fldG h a) (atH h a).1 j)).length) (Fa (ms:(La wdv (numK l (fldG h a) (atH h a).1 j)).set (j:Int).toNat [du64 (numB l ((numK l (fldG h a) (atH h a).1 j).getD j M))]=La wdv ((numK l (fldG h a) (atH h a).1 j).set (j:Int).toNat (numB l ((numK l (fldG h a) (atH h a).1 j).getD j M)))) (Fx 73 j Fz))))))))))))
 .have e7:numK l (fldG h a) (atH h a).1 (j+1)=numK l (fldG h a) (atH h a).1 j:=by rw[numK,if_neg c]
  unfold qiL qgB;rw[e7];exact sF [] [] (Fh 76 [.call Lb (Sx.bool (Z0b (atH h a).1 (j:Int))) [],.br Lc] (FM 70 71 wdv (numK l (fldG h a) (atH h a).1 j) j (Fa (@Z1j ((atH h a).1) ((j:Int)) aa) (Fbs (Z0b (atH h a).1 (j:Int)=Lc) (Fx 73 j Fz)))))
theorem Zpd:CP (rndF f26 4) (qiL h l rs ns k a (fldG h a).length).st (.ext 4) (Tg.st ⟨tm 96 [(2,.pt 8002 0 0),(4,.pt 8004 0 0),(5,int 0),(6,Z01 l),(8,.pt 32008 0 0),(10,int k),(11,.pt 64011 0 0),(13,.ow 73065)],(73065,.arr 35 1 ((Z0X h l a).fs.map wdv))::(64011,.box 52 [int (atH h a).1.K,int (atH h a).1.length,u32 (atH h a).1.map])::qgB h rs ns,11⟩):=by
 have e:=ZnF l hp ha;obtain⟨nl,_⟩:=Zbu l (fldG h a) (atH h a).1 (fldG h a).length (fldG h a).length (Lj _);obtain⟨f1,f2,f3,f4,f5,f6,f7,f8,f9,f10⟩:=Z2R hp ha;unfold qiL qgB;rw[e]at nl ⊢;exact sF [] [] (Fl 70 wdv (Z0X h l a).fs (Ffb 71 (Le ((↑(fldG h a).length:Int)<(↑(Z0X h l a).fs.length:Int))) Fz))
theorem Zok:CP (blkF f26 4) (Tg.st ⟨tm 96 [(2,.pt 8002 0 0),(4,.pt 8004 0 0),(5,int 0),(6,Z01 l),(8,.pt 32008 0 0),(10,int k),(11,.pt 64011 0 0),(13,.ow 73065),(15,int 0)],[(73065,.arr 35 1 ((fldG h a).map wdv)),(64011,.box 52 [int (atH h a).1.K,int (atH h a).1.length,u32 (atH h a).1.map]),(32008,.box 61 [.ow 33008,.ow 34008]),(34008,.arr 120 4 (ns.map NodeG.dv)),(33008,.arr 3 1 (rs.map idv)),(8004,.box 61 [.ow 9004,.ow 10004]),(10004,.arr 120 4 []),(9004,.arr 3 1 []),(8002,.box 28 [int h.C.pw,int h.C.pg,.d (.sl 1 (h.W.map wdv)),.d (.sl 4 (h.P.map Page.dv)),int h.S,int h.B])],11⟩) .nrm (Tg.st ⟨tm 96 [(2,.pt 8002 0 0),(4,.pt 8004 0 0),(5,int 0),(6,Z01 l),(8,.pt 32008 0 0),(10,int k),(11,.pt 64011 0 0),(13,Z01 (Z0X h l a).fs)],(64011,.box 52 [int (atH h a).1.K,int (atH h a).1.length,u32 (atH h a).1.map])::qgB h rs ns,11⟩) :=
 CSpec.frz 73065 (t:=(⟨tm 96 [(2,.pt 8002 0 0),(4,.pt 8004 0 0),(5,int 0),(6,Z01 l),(8,.pt 32008 0 0),(10,int k),(11,.pt 64011 0 0),(13,.ow 73065)],(73065,.arr 35 1 ((Z0X h l a).fs.map wdv))::(64011,.box 52 [int (atH h a).1.K,int (atH h a).1.length,u32 (atH h a).1.map])::qgB h rs ns,11⟩)) (Z08 (S:=λj=>(qiL h l rs ns k a j).st) (fldG h a).length kr (λj hj=>Zmo h l rs ns k a hw hp ha hl j hj) (Zpd h l rs ns k a hw hp ha hl)) kr
end
def qnL(h:Heap)(l roots:List Int)(k:Nat):Tg:=⟨tm 96 [(2,.pt 8002 0 0),(4,.pt 8004 0 0),(5,int 0),(6,Z01 l),(8,.pt 32008 0 0),(10,int k)],qgB h (roots.map (Z0U l)) ((l.take k).map (Z0X h l)),7⟩
section
variable (h:Heap) (l roots:List Int) (O:OrdL h roots l) (hw:WOk h.W) (hl:roots.length<=1000)
include O hw hl
omit hw in
theorem Zn1(i:Nat)(hi:i<roots.length):CP (rndF f26 0) (qgL h l roots i).st .nrm (qgL h l roots (i+1)).st:=by
 have ll:=O.len;have e0:(roots.take i).length=i:=by rw[LA];omega
 have nr:=Z6D l (roots.getD i M);have e7:=Z7c (Z0U l) hi;have e8:Z0U l (roots.getD i M)=numB l (roots.getD i M)-1:=rfl;unfold qgL qgB;rw[e7,e8];exact sF [(56042,33008)] [] (Fh 42 [.els (La idv (La (Z0U l) (Lf i roots)++[numB l (roots.getD i M)-1]))] (FN 28 29 37 wdv roots i (Fc 39 (@Z9n l (roots.getD i M) oq) (Fi 40 (numB l (roots.getD i M)-1) (Fs 41 (La idv [numB l (roots.getD i M)-1]) (Fa (by(simp[*];omega):(La idv (La (Z0U l) (Lf i roots))).length+(La idv [numB l (roots.getD i M)-1]).length<=2^30) (Fa (ms:La idv (La (Z0U l) (Lf i roots))++La idv [numB l (roots.getD i M)-1]=La idv (La (Z0U l) (Lf i roots)++[numB l (roots.getD i M)-1])) (Fx 31 i Fz))))))))
omit O hw hl in
theorem Zp7:CP (rndF f26 0) (qgL h l roots roots.length).st (.ext 0) (Tg.st ⟨tm 96 [(2,.pt 8002 0 0),(4,.pt 8004 0 0),(5,int 0),(6,Z01 l),(8,.pt 32008 0 0)],qgB h (roots.map (Z0U l)) [],6⟩):=by
 have e:roots.take roots.length=roots:=LW;unfold qgL qgB;rw[e];exact sF [] [] (FO 28 29 wdv roots Fz)
theorem ZoJ:CP (blkF f26 0) (Tg.st ⟨tm 96 [(1,Z01 roots),(2,.pt 8002 0 0),(4,.pt 8004 0 0),(5,int 0),(6,Z01 l),(8,.pt 32008 0 0),(9,int 0)],[(32008,.box 61 [.ow 33008,.ow 34008]),(34008,.arr 120 4 []),(33008,.arr 3 1 []),(8004,.box 61 [.ow 9004,.ow 10004]),(10004,.arr 120 4 []),(9004,.arr 3 1 []),(8002,.box 28 [int h.C.pw,int h.C.pg,.d (.sl 1 (h.W.map wdv)),.d (.sl 4 (h.P.map Page.dv)),int h.S,int h.B])],6⟩) .nrm (Tg.st ⟨tm 96 [(2,.pt 8002 0 0),(4,.pt 8004 0 0),(5,int 0),(6,Z01 l),(8,.pt 32008 0 0)],qgB h (roots.map (Z0U l)) [],6⟩) :=
 Z08 (S:=λi=>(qgL h l roots i).st) roots.length kr (λi hi=>Zn1 h l roots O hl i hi) (Zp7 h l roots)
theorem ZnN(k:Nat)(hk:k<l.length):CP (rndF f26 2) (qnL h l roots k).st .nrm (qnL h l roots (k+1)).st:=by
 have ll:=O.len;have hp:=O.p;have n0:=O.n0;have am:=getD_mem_iff.2 ⟨k,hk,rfl⟩;have ha:=O.el _ am;have cl:=O.cl _ am;have ox:=Z0T h _ ha;have e0:(l.take k).length=k:=by rw[LA];omega
 have e7:=Z7c (Z0X h l) hk;unfold qnL qgB;rw[e7];exact sF [(88093,34008)] [] (Fh 93 [.els (La NodeG.dv (La (Z0X h l) (Lf k l)++[NodeG.mk (atH h (l.getD k M)).1 (Z0X h l (l.getD k M)).fs]))] (FN 46 47 54 wdv l k (Fc 56 (@Z9E h (l.getD k M) aa aa aa) (Fek 63 wdv l (↑k) k (Fc 65 (@Z8W h (l.getD k M) aa aa aa) (Fu (@Zok h l (La (Z0U l) roots) (La (Z0X h l) (Lf k l)) k (l.getD k M) aa aa aa aa) (Fs 92 (La NodeG.dv [NodeG.mk (atH h (l.getD k M)).1 (Z0X h l (l.getD k M)).fs]) (Fa (by(simp[*];omega):(La NodeG.dv (La (Z0X h l) (Lf k l))).length+(La NodeG.dv [NodeG.mk (atH h (l.getD k M)).1 (Z0X h l (l.getD k M)).fs]).length<=2^30) (Fa (ms:La NodeG.dv (La (Z0X h l) (Lf k l))++La NodeG.dv [NodeG.mk (atH h (l.getD k M)).1 (Z0X h l (l.getD k M)).fs]=La NodeG.dv (La (Z0X h l) (Lf k l)++[NodeG.mk (atH h (l.getD k M)).1 (Z0X h l (l.getD k M)).fs])) (Fx 49 k Fz))))))))))
omit O hw hl in
theorem Zpj:CP (rndF f26 2) (qnL h l roots l.length).st (.ext 2) (Tg.st ⟨tm 96 [(4,.pt 8004 0 0),(5,int 0),(8,.pt 32008 0 0)],qgB h (roots.map (Z0U l)) (l.map (Z0X h l)),7⟩):=by
 have e:l.take l.length=l:=LW;unfold qnL qgB;rw[e];exact sF [] [] (FO 46 47 wdv l Fz)
def ZoU  := Z08 (S:=λk=>(qnL h l roots k).st) l.length (by kernel_rfl) (λk hk=>ZnN h l roots O hw hl k hk) (Zpj h l roots)
end
section
variable (h:Heap) (roots:List Int) (hw:WOk h.W) (hl:roots.length<=1000) (hr:ULe roots)
include hw hl hr
theorem ZhM(e:(Z09 h roots).2≠0):GP 26 [h.av,Z01 roots] Lc (.tu [.ag [Z0m [],.d (.sl 4 (([]:List NodeG).map NodeG.dv))],int (Z09 h roots).2]) []:=by
 exact gF [] func26 [] (Fh 4 [.gh 3 1,.int 0,.gh 120 4,.int 1] (Fc 19 (@Z4Q h roots aa aa aa) (Ftb 23 ((Z09 h roots).2 != 0) (Fnl (Fnl Fz)))))
theorem ZkT(e:(Z09 h roots).2=0):GP 26 [h.av,Z01 roots] Lc (.tu [.ag [Z0m (roots.map (Z0U (Z09 h roots).1)),.d (.sl 4 (((Z09 h roots).1.map (Z0X h (Z09 h roots).1)).map NodeG.dv))],int 0]) []:=by
 have ol:=Z8E h roots hw hl hr e;exact gF [] func26 [] (Fh 4 [.gh 3 1,.int 0,.gh 120 4,.int 1] (Fh 8 [.gh 3 1,.int 0,.gh 120 4,.int 1] (Fc 19 (@Z4Q h roots aa aa aa) (Ffb 23 ((Z09 h roots).2 != 0) (Fu (@ZoJ h ((Z09 h roots).1) roots aa aa aa) (Fu (@ZoU h ((Z09 h roots).1) roots aa aa aa) Fz))))))
end
def Z1v(w:Work)(r:Int):Int:=if r∈w.Q then r else(Z0o (loadA w.heap.W r).1).1
def Z9p(w:Work)(r:Int)(hw:WOk w.heap.W)(hl:w.heap.W.length<=4096)(hq:w.Q.length<=1048576)(h0:0<=r/\r<=18446744073709551615):GP 85 [w.av,u64 r] Lb (u64 (Z1v w r)) []:=by
 have h1:=Z0w hw r;rcases bb (Le (r∈w.Q))with hc0 | hc0<;>have hc0p:=hc0<;>simp only[bs]at hc0p
 .exact gF [] func85 [Lb] (Fh 12 [.call Lb (Sx.bool (Le (r∈w.Q))) [],.br Lb] (Fa (@Z0z w.Q r aa) (Fa hc0 (Fa (by simp[Z1v, *]:r=Z1v w r) Fz))))
 .exact gF [] func85 [Lb] (Fh 12 [.call Lb (Sx.bool (Le (r∈w.Q))) [],.br Lc] (Fa (@Z0z w.Q r aa) (Fa hc0 (Fc 19 (@Z1A w.heap.W r oq aa) (Fc 24 (@Z2G ((loadA w.heap.W r).1) oq oq) (Fa (by simp[Z1v, *]:(Z0o (loadA w.heap.W r).1).1=Z1v w r) Fz))))))
def ZiY(w:Work)(a:Int)(hw:WOk w.heap.W)(h1:w.heap.W.length<=4096)(h0:0<=a/\a<=18446744073709551615):GP 142 [w.av,u64 a] Lb (hdW w a).av []:=by
 have h2:=Z0w hw a;exact gF [] func142 [] (Fc 14 (@Z1A w.heap.W a oq aa) (Fc 19 (@Z2J ((loadA w.heap.W a).1) oq oq) Fz))
def Z72(w:Work)(x:Int):Work:=if Z1C w (ofA w.heap.C x).1=Lb/\x∉w.Q then⟨⟨w.heap.C,(Z0t w.heap.W x (objW ⟨0,(hdW w x).length,0⟩)).1,w.heap.P,w.heap.S,w.heap.B⟩,w.old,w.T,w.Q,w.D,⟨w.rep.copied,w.rep.kept,w.rep.filled+1,w.rep.freed,w.rep.cleared,w.rep.steps⟩⟩else w
def fillN(w:Work):Nat->Work
 | 0=>w
 | k+1=>Z72 (fillN w k) (w.old.getD k M)
def Zll(w:Work)(i:Nat):Tg:=⟨tm 84 [(1,.pt 8001 0 0),(2,.pt 8002 0 0),(3,int i)],[(8002,.box 138 zW),(8001,.box 138 w.cells)],60⟩
structure FOk (w:Work):Prop where
 W:WOk w.heap.W
 wl:w.heap.W.length<=4096
 pl:w.heap.P.length<=64
 ol:w.old.length<=524288
 o:∀ x∈w.old,0<=x/\x<=8192
 tl:w.T.length<=1000000
 ql:w.Q.length<=1000000
def WkOk.fok{w:Work}(h:WkOk w):FOk w:=by
 have h1:=h.mu;have h2:=h.tl;have h3:=h.pl;have h4:=validB_iff.1 h.C;exact⟨h.W,h.wl,by omega,h.ol,h.o,by omega,by omega⟩
def Z7d{n:Int}(h:0<=n/\n<=255):Z0a ⟨0,n,0⟩=(1+16*n,0):=by
 have hv:Z0f ⟨0,n,0⟩=Lb:=validH_iff.2 ⟨by simp,by simp,h.1,h.2,by simp⟩;rw[Z0a,if_pos hv];simp
section
variable (w:Work) (i:Nat) (hw:FOk w) (hi:i<w.old.length) (hr:0<=w.rep.filled/\w.rep.filled<=1000000)
include hw hi hr
theorem ZiJ:CP (rndF f87 0) (Zll w i).st .nrm (Zll (Z72 w (w.old.getD i M)) (i+1)).st:=by
 have h1:=hw.W;have h2:=hw.wl;have h3:=hw.pl;have h4:=hw.ol;have h5:=hw.tl;have h6:=hw.ql;have hx:=hw.o _ (getD_mem_iff.2 ⟨i,hi,rfl⟩);have hm:=Z1Z (loadA w.heap.W (w.old.getD i M)).1 (Z0w h1 _).1;have hh:0<=(hdW w (w.old.getD i M)).length/\(hdW w (w.old.getD i M)).length<=255:=Z1Y w.heap.W (w.old.getD i M);have he:=Z7d hh;by_cases c1:Z1C w (ofA w.heap.C (w.old.getD i M)).1=Lb
 .by_cases c2:w.old.getD i M∈w.Q
  .have e7:Z72 w (w.old.getD i M)=w:=by rw[Z72,if_neg (by rintro⟨_,q⟩;exact q c2)]
   rw[e7];exact sF [] [] (FN 13 14 24 wdv w.old i (Fc 26 (@Z4f w.heap.C (w.old.getD i M) oq oq) (Fc 32 (@Z1L w ((ofA w.heap.C (w.old.getD i M)).1) oq oq) (FeG 40 (!!Z1C w (ofA w.heap.C (w.old.getD i M)).1) wdv w.old (↑i) i (FcG 42 (!!Z1C w (ofA w.heap.C (w.old.getD i M)).1) (λhg=>by(try simp only[bs]at hg);exact @Z0z w.Q (w.old.getD i M) oq) (Fts 43 (!Z1C w (ofA w.heap.C (w.old.getD i M)).1||Le (w.old.getD i M∈w.Q)) (Fx 16 i Fz)))))))
  .have e7:Z72 w (w.old.getD i M)=⟨⟨w.heap.C,(Z0t w.heap.W (w.old.getD i M) (objW ⟨0,(hdW w (w.old.getD i M)).length,0⟩)).1,w.heap.P,w.heap.S,w.heap.B⟩,w.old,w.T,w.Q,w.D,⟨w.rep.copied,w.rep.kept,w.rep.filled+1,w.rep.freed,w.rep.cleared,w.rep.steps⟩⟩:=by rw[Z72,if_pos ⟨c1,c2⟩]
   rw[e7];exact sF [] [] (Fh 71 [.els (La wdv ([(Z0a (Header.mk 0 (hdW w (w.old.getD i M)).length 0)).1]++Ld (hdW w (w.old.getD i M)).length.toNat 0))] (FN 13 14 24 wdv w.old i (Fc 26 (@Z4f w.heap.C (w.old.getD i M) oq oq) (Fc 32 (@Z1L w ((ofA w.heap.C (w.old.getD i M)).1) oq oq) (FeG 40 (!!Z1C w (ofA w.heap.C (w.old.getD i M)).1) wdv w.old (↑i) i (FcG 42 (!!Z1C w (ofA w.heap.C (w.old.getD i M)).1) (λhg=>by(try simp only[bs]at hg);exact @Z0z w.Q (w.old.getD i M) oq) (Ffs 43 (!Z1C w (ofA w.heap.C (w.old.getD i M)).1||Le (w.old.getD i M∈w.Q)) (Fek 48 wdv w.old (↑i) i (Fc 50 (@ZiY w (w.old.getD i M) aa aa oq) (Fc 55 (@Z37 (Header.mk 0 (hdW w (w.old.getD i M)).length 0) (by(simp only[bs];omega))) (Fek 65 wdv w.old (↑i) i (Fs 68 (La wdv [(Z0a (Header.mk 0 (hdW w (w.old.getD i M)).length 0)).1]) (Fa (by grind[objW]:0<=(hdW w (w.old.getD i M)).length/\(↑(La wdv [(Z0a (Header.mk 0 (hdW w (w.old.getD i M)).length 0)).1]).length:Int)+(hdW w (w.old.getD i M)).length<=2^30) (Fa (by simp[objW,LD,LC,Lu,LB,wdv,idv]:La wdv [(Z0a (Header.mk 0 (hdW w (w.old.getD i M)).length 0)).1]++Ld (hdW w (w.old.getD i M)).length.toNat [du64 0]=La wdv ([(Z0a (Header.mk 0 (hdW w (w.old.getD i M)).length 0)).1]++Ld (hdW w (w.old.getD i M)).length.toNat 0)) (Fc 72 (@Z4H w.heap.W ([(Z0a (Header.mk 0 (hdW w (w.old.getD i M)).length 0)).1]++Ld (hdW w (w.old.getD i M)).length.toNat 0) (w.old.getD i M) oq oq (by grind[objW])) (Fi 80 (w.rep.filled+1) (Fx 16 i Fz)))))))))))))))))
 .have e7:Z72 w (w.old.getD i M)=w:=by rw[Z72,if_neg (by rintro⟨q,_⟩;exact c1 q)]
  rw[e7];exact sF [] [] (FN 13 14 24 wdv w.old i (Fc 26 (@Z4f w.heap.C (w.old.getD i M) oq oq) (Fc 32 (@Z1L w ((ofA w.heap.C (w.old.getD i M)).1) oq oq) (FeG 40 (!!Z1C w (ofA w.heap.C (w.old.getD i M)).1) wdv w.old (↑i) i (FcG 42 (!!Z1C w (ofA w.heap.C (w.old.getD i M)).1) (λhg=>by(try simp only[bs]at hg);exact @Z0z w.Q (w.old.getD i M) oq) (Fts 43 (!Z1C w (ofA w.heap.C (w.old.getD i M)).1||Le (w.old.getD i M∈w.Q)) (Fx 16 i Fz)))))))
end
def ZnI(w:Work):CP (rndF f87 0) (Zll w w.old.length).st (.ext 0) (Tg.st ⟨tm 84 [(1,.pt 8001 0 0),(2,.pt 8002 0 0)],[(8002,.box 138 zW),(8001,.box 138 w.cells)],60⟩):=by
 exact sF [] [] (FO 13 14 wdv w.old Fz)
def Zk9(w:Work)(x:Int):∃ l n,Z72 w x=⟨⟨w.heap.C,l,w.heap.P,w.heap.S,w.heap.B⟩,w.old,w.T,w.Q,w.D,⟨w.rep.copied,w.rep.kept,n,w.rep.freed,w.rep.cleared,w.rep.steps⟩⟩/\l.length<=w.heap.W.length/\(WOk w.heap.W->WOk l)/\w.rep.filled<=n/\n<=w.rep.filled+1:=by
 unfold Z72;split
 .refine⟨_,_,rfl,Z8w _ _ _,λh=>Z5E h ?_ _,by omega,by omega⟩;intro y hy;have hh:0<=(hdW w x).length/\(hdW w x).length<=255:=Z1Y w.heap.W x;simp only[objW,List.mem_cons,LI,Z7d hh]at hy;rcases hy with rfl | ⟨_,rfl⟩<;>omega
 .exact⟨w.heap.W,w.rep.filled,rfl,Lj _,λh=>h,by omega,by omega⟩
def Z6e(w:Work)(hw:FOk w):∀ k,FOk (fillN w k)/\(fillN w k).heap.C=w.heap.C/\(fillN w k).heap.P=w.heap.P/\(fillN w k).heap.S=w.heap.S/\(fillN w k).heap.B=w.heap.B/\(fillN w k).old=w.old/\(fillN w k).T=w.T/\(fillN w k).Q=w.Q/\(fillN w k).rep.freed=w.rep.freed/\(fillN w k).rep.cleared=w.rep.cleared/\w.rep.filled<=(fillN w k).rep.filled/\(fillN w k).rep.filled<=w.rep.filled+k
 | 0=>⟨hw,rfl,rfl,rfl,rfl,rfl,rfl,rfl,rfl,rfl,by simp[fillN],by simp[fillN]⟩
 | k+1=>by
  obtain⟨i0,i1,i2,i3,i4,i5,i6,i7,i8,i9,i10,i11⟩:=Z6e w hw k;obtain⟨l,n,e,e1,e2,e3,e4⟩:=Zk9 (fillN w k) (w.old.getD k M);have:fillN w (k+1)=_:=e;rw[this];have hl:=i0.wl;exact⟨⟨e2 i0.W,by simp only;omega,i0.pl,i0.ol,i0.o,i0.tl,i0.ql⟩,i1,i2,i3,i4,i5,i6,i7,i8,i9,by simp only;omega,by simp only;omega⟩
section
variable (w:Work) (hw:FOk w) (hr:w.rep.filled=0)
include hw hr
theorem Zle:CP (blkF f87 0) (Tg.st ⟨tm 84 [(1,.pt 8001 0 0),(2,.pt 8002 0 0),(3,int 0)],[(8002,.box 138 zW),(8001,.box 138 w.cells)],60⟩) .nrm (Tg.st ⟨tm 84 [(1,.pt 8001 0 0),(2,.pt 8002 0 0)],[(8002,.box 138 zW),(8001,.box 138 (fillN w w.old.length).cells)],60⟩):=by
 have hol:=hw.ol;refine Z08 (S:=λk=>(Zll (fillN w k) k).st) w.old.length kr (λk hk=>?_) ?_
 .have h:=Z6e w hw k;have:=ZiJ (fillN w k) k h.1 (by rw[h.2.2.2.2.2.1];exact hk) oq;rw[h.2.2.2.2.2.1]at this;exact this
 .have h:=Z6e w hw w.old.length;have:=ZnI (fillN w w.old.length);rw[h.2.2.2.2.2.1]at this;exact this
theorem Zcv:GP 87 [w.av] Lc (fillN w w.old.length).av []:=by
 exact gF [] func87 [] (Fu (@Zle w aa aa) Fz)
end
def Z6G(s:Int)(p:Page):Prop:=p.K≠0/\p.S=s
instance (s:Int) (p:Page):Decidable (Z6G s p):=by unfold Z6G;infer_instance
def Z2n(s:Int)(p:Page):Page:=if Z6G s p then⟨0,0,0,0⟩else p
def Z2y(pw s:Int)(l:List Page)(ws:List Int):Nat->List Int
 | 0=>ws
 | i+1=>if Z6G s (l.getD i M)then spl (Z2y pw s l ws i) (i*pw.toNat) (Ld pw.toNat 0)else Z2y pw s l ws i
def Z4e(n s:Int)(l:List Page):Nat->Int
 | 0=>n
 | i+1=>if Z6G s (l.getD i M)then Z4e n s l i+1 else Z4e n s l i
def Zgi(w:Work)(ps:List Page)(ws:List Int)(n:Int)(i:Nat):Tg:=⟨tm 78 [(1,.pt 8001 0 0),(2,.pt 8002 0 0),(3,int i)],[(8001,.box 138 [int w.heap.C.pw,int w.heap.C.pg,.ow 24017,.ow 16010,int w.heap.S,int w.heap.B,Z01 w.old,Z0m w.T,Z01 w.Q,int w.D,int w.rep.copied,int w.rep.kept,int w.rep.filled,int n,int w.rep.cleared,int w.rep.steps]),(24017,.arr 35 1 (ws.map wdv)),(16010,.arr 86 4 (ps.map Page.dv)),(8002,.box 138 zW)],60⟩
def Zko(w:Work)(ps:List Page)(ws:List Int)(n:Int)(i:Nat)(hl:ps.length<=64)(hi:i<ps.length)(hb:¬ Z6G w.heap.S (ps.getD i M)):CP (rndF f86 0) (Zgi w ps ws n i).st .nrm (Zgi w ps ws n (i+1)).st:=by
 unfold Z6G at hb;have hb':¬ ((ps.getD (i:Int).toNat M).K≠0/\(ps.getD (i:Int).toNat M).S=w.heap.S):=hb;exact sF [] [] (FM 24 25 Page.dv ps i (Fmq 33 Page.dv ps (↑i) (Ftb 44 ((ps.getD (i:Int).toNat M).K==0||(ps.getD (i:Int).toNat M).S != w.heap.S) (Fx 27 i Fz))))
def Zje(w:Work)(ps:List Page)(ws:List Int)(n:Int)(i k:Nat):Tg:=⟨tm 78 [(1,.pt 8001 0 0),(2,.pt 8002 0 0),(3,int i),(5,int k)],[(8001,.box 138 [int w.heap.C.pw,int w.heap.C.pg,.ow 24017,.ow 16010,int w.heap.S,int w.heap.B,Z01 w.old,Z0m w.T,Z01 w.Q,int w.D,int w.rep.copied,int w.rep.kept,int w.rep.filled,int n,int w.rep.cleared,int w.rep.steps]),(16010,.arr 86 4 (ps.map Page.dv)),(24017,.arr 35 1 ((wr ws (Ld w.heap.C.pw.toNat 0) (i*w.heap.C.pw.toNat) k).map wdv)),(8002,.box 138 zW)],64⟩
section
variable (w:Work) (ps:List Page) (ws:List Int) (n:Int) (i k:Nat) (hp:0<=w.heap.C.pw/\w.heap.C.pw<=64) (hi:i<=64) (hl:i*w.heap.C.pw.toNat+w.heap.C.pw.toNat<=ws.length) (hw:ws.length<=4096)
include hp hi hl hw
theorem Ziv(hk:k<w.heap.C.pw.toNat):CP (rndF f86 2) (Zje w ps ws n i k).st .nrm (Zje w ps ws n i (k+1)).st:=by
 have hs:=Zal (ws:=ws) (l:=Ld w.heap.C.pw.toNat 0) (i:=i*w.heap.C.pw.toNat) (k:=k) (by simpa using hl) (by simpa using hk) (0:Int);rw[show(Ld w.heap.C.pw.toNat (0:Int)).getD k 0=0 by simp[List.getD,hk]]at hs;have hn:=Z4J (ws:=ws) (l:=Ld w.heap.C.pw.toNat (0:Int)) (i:=i*w.heap.C.pw.toNat) (k:=k) (by simpa using hl) qo;have em:(i:Int)*w.heap.C.pw=((i*w.heap.C.pw.toNat:Nat):Int):=by rw[LM,LO hp.1]
 have ei:(i:Int)*w.heap.C.pw+k=((i*w.heap.C.pw.toNat+k:Nat):Int):=by omega
 exact sF [] (fO 6) (Fh 10076 [.els (La wdv ((wr ws (Ld w.heap.C.pw.toNat 0) (i*w.heap.C.pw.toNat) k).set (↑(i*w.heap.C.pw.toNat+k):Int).toNat 0))] (Ftb 62 (Le ((k:Int)<w.heap.C.pw)) (Fi 73 ((i:Int)*w.heap.C.pw) (Fg 75 (by rw[wrapI' oq oq];omega:Ln.wrap ((i:Int)*w.heap.C.pw+(k:Int))=(↑(i*w.heap.C.pw.toNat+k):Int)) (Fa (by(simp only[Li];omega):0<=(↑(i*w.heap.C.pw.toNat+k):Int)/\(↑(i*w.heap.C.pw.toNat+k):Int).toNat<(La wdv (wr ws (Ld w.heap.C.pw.toNat 0) (i*w.heap.C.pw.toNat) k)).length) (Fa (by(simp only[Li];omega):(↑(i*w.heap.C.pw.toNat+k):Int).toNat<(La wdv (wr ws (Ld w.heap.C.pw.toNat 0) (i*w.heap.C.pw.toNat) k)).length) (Fa (ms:(La wdv (wr ws (Ld w.heap.C.pw.toNat 0) (i*w.heap.C.pw.toNat) k)).set (↑(i*w.heap.C.pw.toNat+k):Int).toNat [du64 0]=La wdv ((wr ws (Ld w.heap.C.pw.toNat 0) (i*w.heap.C.pw.toNat) k).set (↑(i*w.heap.C.pw.toNat+k):Int).toNat 0)) (Fx 64 k (Fr (35:Int) (Fa (by refine congrArg _ ?_;exact hs:La wdv ((wr ws (Ld w.heap.C.pw.toNat 0) (i*w.heap.C.pw.toNat) k).set (↑(i*w.heap.C.pw.toNat+k):Int).toNat 0)=La wdv (wr ws (Ld w.heap.C.pw.toNat 0) (i*w.heap.C.pw.toNat) (k+1))) Fz))))))))))
theorem ZmA:CP (rndF f86 2) (Zje w ps ws n i w.heap.C.pw.toNat).st (.ext 2) (Tg.st ⟨tm 78 [(1,.pt 8001 0 0),(2,.pt 8002 0 0),(3,int i)],[(8001,.box 138 [int w.heap.C.pw,int w.heap.C.pg,.ow 24017,.ow 16010,int w.heap.S,int w.heap.B,Z01 w.old,Z0m w.T,Z01 w.Q,int w.D,int w.rep.copied,int w.rep.kept,int w.rep.filled,int n,int w.rep.cleared,int w.rep.steps]),(16010,.arr 86 4 (ps.map Page.dv)),(24017,.arr 35 1 ((spl ws (i*w.heap.C.pw.toNat) (Ld w.heap.C.pw.toNat 0)).map wdv)),(8002,.box 138 zW)],64⟩):=by
 have hs:=ZbW ws (Ld w.heap.C.pw.toNat (0:Int)) (i*w.heap.C.pw.toNat);rw[Lo]at hs;exact sF [] (fO 5) (Ffb 62 (Le ((w.heap.C.pw.toNat:Int)<w.heap.C.pw)) (Fr (35:Int) (Fa (by refine congrArg _ ?_;assumption:La wdv (wr ws (Ld w.heap.C.pw.toNat 0) (i*w.heap.C.pw.toNat) w.heap.C.pw.toNat)=La wdv (spl ws (i*w.heap.C.pw.toNat) (Ld w.heap.C.pw.toNat 0))) Fz)))
theorem Zl9:CP (blkF f86 2) (Tg.st ⟨tm 78 [(1,.pt 8001 0 0),(2,.pt 8002 0 0),(3,int i),(5,int 0)],[(8001,.box 138 [int w.heap.C.pw,int w.heap.C.pg,.ow 24017,.ow 16010,int w.heap.S,int w.heap.B,Z01 w.old,Z0m w.T,Z01 w.Q,int w.D,int w.rep.copied,int w.rep.kept,int w.rep.filled,int n,int w.rep.cleared,int w.rep.steps]),(16010,.arr 86 4 (ps.map Page.dv)),(24017,.arr 35 1 (ws.map wdv)),(8002,.box 138 zW)],64⟩) .nrm (Tg.st ⟨tm 78 [(1,.pt 8001 0 0),(2,.pt 8002 0 0),(3,int i)],[(8001,.box 138 [int w.heap.C.pw,int w.heap.C.pg,.ow 24017,.ow 16010,int w.heap.S,int w.heap.B,Z01 w.old,Z0m w.T,Z01 w.Q,int w.D,int w.rep.copied,int w.rep.kept,int w.rep.filled,int n,int w.rep.cleared,int w.rep.steps]),(16010,.arr 86 4 (ps.map Page.dv)),(24017,.arr 35 1 ((spl ws (i*w.heap.C.pw.toNat) (Ld w.heap.C.pw.toNat 0)).map wdv)),(8002,.box 138 zW)],64⟩):=by
 have:=Z08 (S:=λk=>(Zje w ps ws n i k).st) w.heap.C.pw.toNat kr (λk hk=>Ziv w ps ws n i k hp hi hl hw hk) (ZmA w ps ws n i hp hi hl hw)
 simp only[Zje,Z7A]at this;exact this
end
def ZjI(w:Work)(ps:List Page)(ws:List Int)(n:Int)(i:Nat)(hl:ps.length<=64)(hi:i<ps.length)(hb:Z6G w.heap.S (ps.getD i M))(hp:0<=w.heap.C.pw/\w.heap.C.pw<=64)(hs:i*w.heap.C.pw.toNat+w.heap.C.pw.toNat<=ws.length)(hw:ws.length<=4096)(hn:0<=n/\n<=64):CP (rndF f86 0) (Zgi w ps ws n i).st .nrm (Zgi w (ps.set i ⟨0,0,0,0⟩) (spl ws (i*w.heap.C.pw.toNat) (Ld w.heap.C.pw.toNat 0)) (n+1) (i+1)).st:=by
 unfold Z6G at hb;have hb':(ps.getD (i:Int).toNat M).K≠0/\(ps.getD (i:Int).toNat M).S=w.heap.S:=hb;exact sF [] [] (Fh 10050 [.els (La Page.dv (ps.set (i:Int).toNat (Page.mk 0 0 0 0)))] (FM 24 25 Page.dv ps i (Fmq 33 Page.dv ps (↑i) (Ffb 44 ((ps.getD (i:Int).toNat M).K==0||(ps.getD (i:Int).toNat M).S != w.heap.S) (Fa (by(simp only[Li];omega):0<=(i:Int)/\(i:Int).toNat<(La Page.dv ps).length) (Fa (by(simp only[Li];omega):(i:Int).toNat<(La Page.dv ps).length) (Fa (by rw[Lu];rfl:(La Page.dv ps).set (i:Int).toNat [dint 0,dint 0,dint 0,dint 0]=La Page.dv (ps.set (i:Int).toNat (Page.mk 0 0 0 0))) (Fi 54 (n+1) (Fu (@Zl9 w (ps.set (i:Int).toNat (Page.mk 0 0 0 0)) ws (n+1) i aa oq aa aa) (Fx 27 i Fz))))))))))
def Z4X{pw s:Int}{l:List Page}{ws:List Int}(h:l.length*pw.toNat<=ws.length):∀ i,i<=l.length->(Z2y pw s l ws i).length=ws.length
 | 0,_=>rfl
 | i+1,hi=>by
  have ih:=Z4X (s:=s) h i oq;have hm:(i+1)*pw.toNat<=l.length*pw.toNat:=L0 _ hi;rw[LY,L1]at hm;unfold Z2y;split
  .rw[Z4j qo,ih]
  .exact ih
def Z5x(n s:Int)(l:List Page):∀ i:Nat,n<=Z4e n s l i/\Z4e n s l i<=n+i
 | 0=>by simp[Z4e]
 | i+1=>by
  have ih:=Z5x n s l i;unfold Z4e;split<;>omega
def Z1t(w:Work):Work:=⟨⟨w.heap.C,Z2y w.heap.C.pw w.heap.S w.heap.P w.heap.W w.heap.P.length,w.heap.P.map (Z2n w.heap.S),w.heap.S,w.heap.B⟩,w.old,w.T,w.Q,w.D,⟨w.rep.copied,w.rep.kept,w.rep.filled,Z4e w.rep.freed w.heap.S w.heap.P w.heap.P.length,w.rep.cleared,w.rep.steps⟩⟩
def Zmj(w:Work)(ps:List Page)(ws:List Int)(n:Int):CP (rndF f86 0) (Zgi w ps ws n ps.length).st (.ext 0) (Tg.st ⟨tm 78 [(1,.pt 8001 0 0),(2,.pt 8002 0 0)],[(8001,.box 138 [int w.heap.C.pw,int w.heap.C.pg,.ow 24017,.ow 16010,int w.heap.S,int w.heap.B,Z01 w.old,Z0m w.T,Z01 w.Q,int w.D,int w.rep.copied,int w.rep.kept,int w.rep.filled,int n,int w.rep.cleared,int w.rep.steps]),(24017,.arr 35 1 (ws.map wdv)),(16010,.arr 86 4 (ps.map Page.dv)),(8002,.box 138 zW)],60⟩):=by
 exact sF [] [] (FO 24 25 Page.dv ps Fz)
section
variable (w:Work) (hl:w.heap.P.length<=64) (hp:0<=w.heap.C.pw/\w.heap.C.pw<=64) (hs:w.heap.P.length*w.heap.C.pw.toNat<=w.heap.W.length) (hw:w.heap.W.length<=4096) (hr:w.rep.freed=0)
include hl hp hs hw hr
theorem ZlA:CP (blkF f86 0) (Tg.st ⟨tm 78 [(1,.pt 8001 0 0),(2,.pt 8002 0 0),(3,int 0)],[(8001,.box 138 [int w.heap.C.pw,int w.heap.C.pg,.ow 24017,.ow 16010,int w.heap.S,int w.heap.B,Z01 w.old,Z0m w.T,Z01 w.Q,int w.D,int w.rep.copied,int w.rep.kept,int w.rep.filled,int w.rep.freed,int w.rep.cleared,int w.rep.steps]),(24017,.arr 35 1 (w.heap.W.map wdv)),(16010,.arr 86 4 (w.heap.P.map Page.dv)),(8002,.box 138 zW)],60⟩) .nrm (Tg.st ⟨tm 78 [(1,.pt 8001 0 0),(2,.pt 8002 0 0)],[(8001,.box 138 [int w.heap.C.pw,int w.heap.C.pg,.ow 24017,.ow 16010,int w.heap.S,int w.heap.B,Z01 w.old,Z0m w.T,Z01 w.Q,int w.D,int w.rep.copied,int w.rep.kept,int w.rep.filled,int (Z4e w.rep.freed w.heap.S w.heap.P w.heap.P.length),int w.rep.cleared,int w.rep.steps]),(24017,.arr 35 1 ((Z2y w.heap.C.pw w.heap.S w.heap.P w.heap.W w.heap.P.length).map wdv)),(16010,.arr 86 4 ((w.heap.P.map (Z2n w.heap.S)).map Page.dv)),(8002,.box 138 zW)],60⟩):=by
 refine Z08 (S:=λk=>(Zgi w (preM (Z2n w.heap.S) w.heap.P k) (Z2y w.heap.C.pw w.heap.S w.heap.P w.heap.W k) (Z4e w.rep.freed w.heap.S w.heap.P k) k).st) w.heap.P.length kr (λk hk=>?_) ?_
 .have h1:=Z3x (Z2n w.heap.S) w.heap.P k;have h2:=Z7t (Z2n w.heap.S) w.heap.P (Lj k) M;have h3:=Z4X (s:=w.heap.S) hs k oq;have h4:=Z5x w.rep.freed w.heap.S w.heap.P k;by_cases hb:Z6G w.heap.S (w.heap.P.getD k M)
  .have e1:=Z5Y (Z2n w.heap.S) w.heap.P hk M;have e2:Z2y w.heap.C.pw w.heap.S w.heap.P w.heap.W (k+1)=spl (Z2y w.heap.C.pw w.heap.S w.heap.P w.heap.W k) (k*w.heap.C.pw.toNat) (Ld w.heap.C.pw.toNat 0):=by rw[Z2y,if_pos hb]
   have e3:Z4e w.rep.freed w.heap.S w.heap.P (k+1)=Z4e w.rep.freed w.heap.S w.heap.P k+1:=by rw[Z4e,if_pos hb]
   rw[Z2n,if_pos hb]at e1;rw[<- e1,e2,e3];have hm:(k+1)*w.heap.C.pw.toNat<=w.heap.P.length*w.heap.C.pw.toNat:=L0 _ hk;rw[LY,L1]at hm;exact ZjI w _ _ _ k oq oq (by rw[h2];exact hb) hp oq oq oq
  .have e1:=Z7Q (Z2n w.heap.S) w.heap.P hk M (by rw[Z2n,if_neg hb]);have e2:Z2y w.heap.C.pw w.heap.S w.heap.P w.heap.W (k+1)=Z2y w.heap.C.pw w.heap.S w.heap.P w.heap.W k:=by rw[Z2y,if_neg hb]
   have e3:Z4e w.rep.freed w.heap.S w.heap.P (k+1)=Z4e w.rep.freed w.heap.S w.heap.P k:=by rw[Z4e,if_neg hb]
   rw[<- e1,e2,e3];exact Zko w _ _ _ k oq oq (by rw[h2];exact hb)
 .have h:=Zmj w (preM (Z2n w.heap.S) w.heap.P w.heap.P.length) (Z2y w.heap.C.pw w.heap.S w.heap.P w.heap.W w.heap.P.length) (Z4e w.rep.freed w.heap.S w.heap.P w.heap.P.length);rw[Z3x,Z7k]at h;simp only[Z7k];exact h
theorem ZbN:GP 86 [w.av] Lc (Z1t w).av []:=by
 have h1:=Z4X (s:=w.heap.S) hs w.heap.P.length (Lj _);have h2:=Z5x w.rep.freed w.heap.S w.heap.P w.heap.P.length;exact gF [] func86 [] (FAx 6 10 Page.dv w.heap.P (by(simp[Z1t, *];omega)) (FAx 13 17 wdv w.heap.W (by(simp[Z1t, *];omega)) (Fu (@ZlA w aa aa aa aa aa) Fz)))
end
def rep0:Rep:=⟨0,0,0,0,0,0⟩
def Z4N{h:Heap}{l:List Int}(e:Z0i h l=Lb):Z0P h=⟨0,0,0⟩:=by
 simp only[Z0i,Bool.and_eq_true,decide_eq_true_eq]at e;exact e.1
section
variable (h:Heap) (s k:List Int) (hw:WOk h.W) (hs:s.length<=1048575) (hk:k.length<=1048575) (hs2:ULe s) (hk2:ULe k)
include hw hs hk hs2 hk2
theorem Zlo(hp:Z03 h=Lc):GP 36 [h.av,Z01 s,Z01 k] Lc (.tu [noHeap.av,Z01 [],Z01 [],.ag rep0.cells,int 1]) []:=by
 exact gF [] func36 [] (Fc 20 (@Z0e h) (Ftb 21 (!Z03 h) (Fnl (Fnl (Fnl (Fnl Fz))))))
theorem ZjO(hp:Z03 h=Lb)(hr:Z0i h s=Lc\/Z0i h k=Lc):GP 36 [h.av,Z01 s,Z01 k] Lc (.tu [noHeap.av,Z01 [],Z01 [],.ag rep0.cells,int 19]) []:=by
 by_cases h1:Z0i h s=Lc
 .exact gF [] func36 [] (Fc 20 (@Z0e h) (Ffb 21 (!Z03 h) (Fc 26 (@Z1D h s aa oq) (FcG 31 (!!Z0i h s) (λhg=>by(try simp only[bs]at hg);exact @Zc5 h k aa (by(try simp only[bs]at hg);grind[noHeap,rep0])) (Fts 33 (!Z0i h s||Lb) (Fnl (Fnl (Fnl (Fnl Fz)))))))))
 .have h2:Z0i h k=Lc:=by
   rcases hr with hr | hr
   .exact absurd hr h1
   .exact hr
  exact gF [] func36 [] (Fc 20 (@Z0e h) (Ffb 21 (!Z03 h) (Fc 26 (@Z1D h s aa oq) (FcG 31 (!!Z0i h s) (λhg=>by(try simp only[bs]at hg);exact @Z1D h k aa oq) (Ftb 33 (!Z0i h s||!Z0i h k) (Fnl (Fnl (Fnl (Fnl Fz)))))))))
theorem ZkV(hp:Z03 h=Lb)(hr:Z0i h s=Lb)(hr':Z0i h k=Lb)(e:¬ (rootsF (beginW h) s).2.2=0):GP 36 [h.av,Z01 s,Z01 k] Lc (.tu [noHeap.av,Z01 [],Z01 [],.ag rep0.cells,int (rootsF (beginW h) s).2.2]) []:=by
 have hb:=Z52 hw hp;have hg:=Z4N hr;exact gF [] func36 [] (Fc 20 (@Z0e h) (Ffb 21 (!Z03 h) (Fc 26 (@Z1D h s aa oq) (FcG 31 (!!Z0i h s) (λhg=>by(try simp only[bs]at hg);exact @Z1D h k aa oq) (Ffs 33 (!Z0i h s||!Z0i h k) (Fc 38 (@Z41 h aa aa aa) (Fc 44 (@Z55 (beginW h) s aa aa aa) (Ftb 49 ((rootsF (beginW h) s).2.2 != 0) (Fnl (Fnl (Fnl (Fnl Fz))))))))))))
theorem Zkt(hp:Z03 h=Lb)(hr:Z0i h s=Lb)(hr':Z0i h k=Lb)(e:(rootsF (beginW h) s).2.2=0)(e2:¬ (allF (rootsF (beginW h) s).1).2=0):GP 36 [h.av,Z01 s,Z01 k] Lc (.tu [noHeap.av,Z01 [],Z01 [],.ag rep0.cells,int (allF (rootsF (beginW h) s).1).2]) []:=by
 have hb:=Z52 hw hp;have hi:=Z4m hp;have hg:=Z4N hr;have ho:=Z4h (roots:=s) hb hi e;have ho1:=ho.1;let y0:=rootsF (beginW h) s;exact gF [] func36 [] (Fc 20 (@Z0e h) (Ffb 21 (!Z03 h) (Fc 26 (@Z1D h s aa oq) (FcG 31 (!!Z0i h s) (λhg=>by(try simp only[bs]at hg);exact @Z1D h k aa oq) (Ffs 33 (!Z0i h s||!Z0i h k) (Fc 38 (@Z41 h aa aa aa) (Fc 44 (@Z55 (beginW h) s aa aa aa) (Ffb 49 (y0.2.2 != 0) (Fc 55 (@Zap (y0.1) aa) (Ftb 59 ((allF y0.1).2 != 0) (Fnl (Fnl (Fnl (Fnl Fz))))))))))))))
end
def Z8R(w:Work)(x:Int):Int:=if x=0 then 0 else Z1v w x
def Z90(w:Work)(x:Int):Work:=⟨w.heap,w.old,w.T,w.Q,w.D,⟨w.rep.copied,w.rep.kept,w.rep.filled,w.rep.freed,if x≠0/\Z1v w x=0 then w.rep.cleared+1 else w.rep.cleared,w.rep.steps⟩⟩
def weakS(w:Work)(k:List Int):Nat->Work
 | 0=>w
 | i+1=>Z90 (weakS w k i) (k.getD i M)
def Z5A(w:Work)(k:List Int):Nat->List Int
 | 0=>[]
 | i+1=>Z5A w k i++[Z8R (weakS w k i) (k.getD i M)]
def Z7s(w:Work)(k:List Int):∀ i,(weakS w k i).heap=w.heap/\(weakS w k i).old=w.old/\(weakS w k i).T=w.T/\(weakS w k i).Q=w.Q/\(weakS w k i).rep.filled=w.rep.filled/\(weakS w k i).rep.freed=w.rep.freed/\w.rep.cleared<=(weakS w k i).rep.cleared/\(weakS w k i).rep.cleared<=w.rep.cleared+i
 | 0=>⟨rfl,rfl,rfl,rfl,rfl,rfl,by simp[weakS],by simp[weakS]⟩
 | i+1=>by
  obtain⟨h1,h2,h3,h4,h5,h6,h7,h8⟩:=Z7s w k i;refine⟨h1,h2,h3,h4,h5,h6, ?_, ?_⟩
  .simp only[weakS,Z90];split<;>omega
  .simp only[weakS,Z90];split<;>omega
def Z8L(w:Work)(k:List Int):∀ i,(Z5A w k i).length=i
 | 0=>rfl
 | i+1=>by simp[Z5A,Z8L w k i]
def Zku(w:Work)(k roots out:List Int)(i:Nat):Tg:=⟨tm 122 [(2,Z01 k),(6,.pt 8006 0 0),(7,.d (.sl 0 [])),(8,.d (.sl 0 [])),(9,.pt 8009 0 0),(10,int 0),(11,.pt 32011 0 0),(13,Z01 roots),(15,.ow 72015),(16,int i)],[(72015,.arr 35 1 (out.map wdv)),(32011,.box 138 w.cells),(8009,.box 73 [int 0,int 0,int 0,int 0,int 0,int 0]),(8006,.box 28 [int 0,int 0,.d (.sl 0 []),.d (.sl 0 []),int 0,int 0])],60⟩
section
variable (w:Work) (k roots out:List Int) (i:Nat) (hw:WOk w.heap.W) (hl:w.heap.W.length<=4096) (hq:w.Q.length<=1048576) (hk:k.length<=1048575) (hx:0<=k.getD i M/\k.getD i M<=18446744073709551615) (ho:out.length<=1048576) (hi:i<k.length) (hc:0<=w.rep.cleared/\w.rep.cleared<=2097152)
include hw hl hq hk hx ho hi hc
theorem Zjq:CP (rndF f36 0) (Zku w k roots out i).st .nrm (Zku (Z90 w (k.getD i M)) k roots (out++[Z8R w (k.getD i M)]) (i+1)).st:=by
 by_cases h0:k.getD i M=0
 .have e1:Z8R w (k.getD i M)=0:=by rw[Z8R,if_pos h0]
  have e2:Z90 w (k.getD i M)=w:=by rw[Z90,if_neg (by rintro⟨q,_⟩;exact q h0)]
  rw[e1,e2];exact sF [(504091,72015)] [] (Fh 91 [.els (La wdv (out++[0]))] (FN 65 66 71 wdv k i (Ffb 73 (k.getD i M != 0) (Fs 90 (La wdv [0]) (Fa (by(simp[*];omega):(La wdv out).length+(La wdv [0]).length<=2^30) (Fa (ms:La wdv out++La wdv [0]=La wdv (out++[0])) (Fx 68 i Fz)))))))
 .have e1:Z8R w (k.getD i M)=Z1v w (k.getD i M):=by rw[Z8R,if_neg h0]
  rw[e1];by_cases h2:Z1v w (k.getD i M)=0
  .have e2:Z90 w (k.getD i M)=⟨w.heap,w.old,w.T,w.Q,w.D,⟨w.rep.copied,w.rep.kept,w.rep.filled,w.rep.freed,w.rep.cleared+1,w.rep.steps⟩⟩:=by rw[Z90,if_pos ⟨h0,h2⟩]
   rw[e2];let y0:=k.getD i M;exact sF [(528091,72015)] [] (Fh 91 [.els (La wdv (out++[Z1v w y0]))] (FN 65 66 71 wdv k i (Ftb 73 (k.getD i M != 0) (Fek 77 wdv k (↑i) i (Fc 79 (@Z9p w y0 aa aa aa aa) (Ftb 81 (Z1v w y0==0) (Fi 85 (w.rep.cleared+1) (Fs 90 (La wdv [Z1v w y0]) (Fa (by(simp[*];omega):(La wdv out).length+(La wdv [Z1v w y0]).length<=2^30) (Fa (ms:La wdv out++La wdv [Z1v w y0]=La wdv (out++[Z1v w y0])) (Fx 68 i Fz)))))))))))
  .have e2:Z90 w (k.getD i M)=w:=by rw[Z90,if_neg (by rintro⟨_,q⟩;exact h2 q)]
   rw[e2];let y1:=k.getD i M;exact sF [(520091,72015)] [] (Fh 91 [.els (La wdv (out++[Z1v w y1]))] (FN 65 66 71 wdv k i (Ftb 73 (k.getD i M != 0) (Fek 77 wdv k (↑i) i (Fc 79 (@Z9p w y1 aa aa aa aa) (Ffb 81 (Z1v w y1==0) (Fs 90 (La wdv [Z1v w y1]) (Fa (by(simp[*];omega):(La wdv out).length+(La wdv [Z1v w y1]).length<=2^30) (Fa (ms:La wdv out++La wdv [Z1v w y1]=La wdv (out++[Z1v w y1])) (Fx 68 i Fz))))))))))
end
def ZnG(w:Work)(k roots out:List Int):CP (rndF f36 0) (Zku w k roots out k.length).st (.ext 0) (Tg.st ⟨tm 122 [(6,.pt 8006 0 0),(7,.d (.sl 0 [])),(8,.d (.sl 0 [])),(9,.pt 8009 0 0),(10,int 0),(11,.pt 32011 0 0),(13,Z01 roots),(15,.ow 72015)],[(72015,.arr 35 1 (out.map wdv)),(32011,.box 138 w.cells),(8009,.box 73 [int 0,int 0,int 0,int 0,int 0,int 0]),(8006,.box 28 [int 0,int 0,.d (.sl 0 []),.d (.sl 0 []),int 0,int 0])],60⟩):=by
 exact sF [] [] (FO 65 66 wdv k Fz)
def Zfo(w:Work)(k roots:List Int)(hw:WOk w.heap.W)(hl:w.heap.W.length<=4096)(hq:w.Q.length<=1048576)(hk:k.length<=1048575)(hx:ULe k)(hc:w.rep.cleared=0):CP (blkF f36 0) (Zku (weakS w k 0) k roots (Z5A w k 0) 0).st .nrm (Tg.st ⟨tm 122 [(6,.pt 8006 0 0),(7,.d (.sl 0 [])),(8,.d (.sl 0 [])),(9,.pt 8009 0 0),(10,int 0),(11,.pt 32011 0 0),(13,Z01 roots),(15,.ow 72015)],[(72015,.arr 35 1 ((Z5A w k k.length).map wdv)),(32011,.box 138 (weakS w k k.length).cells),(8009,.box 73 [int 0,int 0,int 0,int 0,int 0,int 0]),(8006,.box 28 [int 0,int 0,.d (.sl 0 []),.d (.sl 0 []),int 0,int 0])],60⟩):=by
 refine Z08 (S:=λi=>(Zku (weakS w k i) k roots (Z5A w k i) i).st) k.length kr (λi hi=>?_) (ZnG _ k roots _);have h:=Z7s w k i;exact Zjq _ k roots _ i (by rw[h.1];exact hw) (by rw[h.1];exact hl) (by rw[h.2.2.2.1];exact hq) hk (Z3T hx i) (by rw[Z8L];omega) hi oq
abbrev cB(h:Heap)(s k:List Int):Work:=weakS (allF (rootsF (beginW h) s).1).1 k k.length
abbrev cA(h:Heap)(s k:List Int):Work:=fillN (cB h s k) (cB h s k).old.length
def ZdP{n:Int}(h:0<=n/\n<=255):(decodeH (1+16*n)).1.length=n:=by
 have e:Z2T (1+16*n)=⟨0,n,0⟩:=by
  simp only[Z2T,Header.mk.injEq];omega
 have he:=Z7d h;unfold decodeH;rw[e,he];simp
def Zhr{w:Work}(h:CIv w){x:Int}(hx:x∈w.old):CIv (Z72 w x):=by
 unfold Z72;split
 .rename_i hc;have hr:=h.r x (LF _ hx);have hh:=Z1Y w.heap.W x;have hl:(objW ⟨0,(hdW w x).length,0⟩).length=(hlA w.heap.W x+1).toNat:=by
   show(objW ⟨0,hlA w.heap.W x,0⟩).length=_;simp[objW];omega
  have hin:4096<=x/\x-4096+(objW ⟨0,(hdW w x).length,0⟩).length<=w.heap.W.length:=by omega
  have hlen:(Z0t w.heap.W x (objW ⟨0,(hdW w x).length,0⟩)).1.length=w.heap.W.length:=by
   unfold Z0t;rw[if_pos hin];exact Z4j oq
  have:=h.withWords hlen (λa ha=>?_)
  .exact⟨this.L,this.r,this.s,this.f,this.z⟩
  .by_cases he:a=x
   .subst he;have:hlA (Z0t w.heap.W a (objW ⟨0,(hdW w a).length,0⟩)).1 a=hlA w.heap.W a:=by
     have e1:=Z3S (b:=a) hin oq;unfold hlA at *;rw[e1];have e2:(objW ⟨0,(hdW w a).length,0⟩).getD (a-a).toNat 0=1+16*(decodeH (loadA w.heap.W a).1).1.length:=by
      rw[Int.sub_self];show(Z0a ⟨0,(hdW w a).length,0⟩).1=_;rw[Z7d (show 0<=(hdW w a).length/\(hdW w a).length<=255 from hh)];rfl
     rw[e2];exact ZdP hh
    omega
   .have s1:=h.s a ha x (LF _ hx);have s2:=h.s x (LF _ hx) a ha;have ha0:=Z1Y w.heap.W a;have:hlA (Z0t w.heap.W x (objW ⟨0,(hdW w x).length,0⟩)).1 a=hlA w.heap.W a:=by
     have e1:=Z3D (b:=a) hin (by
      rcases Int.lt_or_lt_of_ne he with q | q
      .exact Lr q
      .have:=s2 q;exact Lm oq)
     unfold hlA;rw[e1]
    omega
 .exact h
def ZcD{w:Work}(hw:FOk w)(h:CIv w):∀ k,k<=w.old.length->CIv (fillN w k)
 | 0,_=>h
 | k+1,hk=>Zhr (ZcD hw h k oq) (by rw[(Z6e w hw k).2.2.2.2.2.1];exact getD_mem_iff.2 ⟨k,by omega,rfl⟩)
def ZcA{w:Work}(h:CIv w)(k:List Int):∀ i,CIv (weakS w k i)
 | 0=>h
 | i+1=>by
  have ih:=ZcA h k i;exact⟨ih.L,ih.r,ih.s,ih.f,ih.z⟩
def Zci{w:Work}(h:FOk w)(k:List Int):∀ i,FOk (weakS w k i)
 | 0=>h
 | i+1=>by
  have ih:=Zci h k i;exact⟨ih.W,ih.wl,ih.pl,ih.ol,ih.o,ih.tl,ih.ql⟩
def cW2(h:Heap)(s:List Int):Work:=(allF (rootsF (beginW h) s).1).1
def cW3(h:Heap)(s k:List Int):Work:=weakS (cW2 h s) k k.length
def cW4(h:Heap)(s k:List Int):Work:=fillN (cW3 h s k) (cW3 h s k).old.length
def cW5(h:Heap)(s k:List Int):Work:=Z1t (cW4 h s k)
def endH(w:Work):Heap:=⟨w.heap.C,w.heap.W,w.heap.P,1-w.heap.S,if 0<w.T.length then Z17 w else -1⟩
structure COk (h:Heap) (s k:List Int):Prop where
 w2:WkOk (cW2 h s)
 i2:CIv (cW2 h s)
 x2:CEx (beginW h) (cW2 h s)
 f3:FOk (cW3 h s k)
 i3:CIv (cW3 h s k)
 r3:(cW3 h s k).rep.filled=0/\(cW3 h s k).rep.freed=0
 f4:FOk (cW4 h s k)
 i4:CIv (cW4 h s k)
 h4:(cW4 h s k).heap.C=h.C/\(cW4 h s k).heap.P=(cW2 h s).heap.P/\(cW4 h s k).heap.S=(cW2 h s).heap.S/\(cW4 h s k).T=(cW2 h s).T/\(cW4 h s k).rep.freed=0
section
variable (h:Heap) (s k:List Int) (hw:WOk h.W) (hp:Z03 h=Lb) (e:(rootsF (beginW h) s).2.2=0) (e2:(allF (rootsF (beginW h) s).1).2=0)
include hw hp e e2
theorem cOk:COk h s k:=by
 have hb:=Z52 hw hp;have hi:=Z4m hp;have ho:=Z4h (roots:=s) hb hi e;have w2:WkOk (cW2 h s):=Zmb _ ho.1 e2;have i2:=ZkW ho.1 ho.2.1 e2;have x2:CEx (beginW h) (cW2 h s):=ho.2.2.1.trans i2.2;have f3:FOk (cW3 h s k):=Zci w2.fok k _;have i3:CIv (cW3 h s k):=ZcA i2.1 k _;obtain⟨a1,a2,a3,a4,a5,a6,a7,a8⟩:=Z7s (cW2 h s) k k.length;have hr0:=w2.r0;have r3:(cW3 h s k).rep.filled=0/\(cW3 h s k).rep.freed=0:=⟨a5.trans hr0.1,a6.trans hr0.2.1⟩
 obtain⟨b0,b1,b2,b3,b4,b5,b6,b7,b8,b9,b10,b11⟩:=Z6e (cW3 h s k) f3 (cW3 h s k).old.length;refine⟨w2,i2.1,x2,f3,i3,r3,b0,ZcD f3 i3 _ (Lj _), ?_, ?_, ?_, ?_, ?_⟩
 .show(fillN (cW3 h s k) (cW3 h s k).old.length).heap.C=_;rw[b1];show(weakS (cW2 h s) k k.length).heap.C=_;rw[a1];exact x2.c
 .show(fillN (cW3 h s k) (cW3 h s k).old.length).heap.P=_;rw[b2];show(weakS (cW2 h s) k k.length).heap.P=_;rw[a1]
 .show(fillN (cW3 h s k) (cW3 h s k).old.length).heap.S=_;rw[b3];show(weakS (cW2 h s) k k.length).heap.S=_;rw[a1]
 .show(fillN (cW3 h s k) (cW3 h s k).old.length).T=_;rw[b6];exact a3
 .show(fillN (cW3 h s k) (cW3 h s k).old.length).rep.freed=_;rw[b8];exact r3.2
theorem cOk5:(cW4 h s k).heap.P.length<=64/\0<=(cW4 h s k).heap.C.pw/\(cW4 h s k).heap.C.pw<=64/\(cW4 h s k).heap.P.length*(cW4 h s k).heap.C.pw.toNat<=(cW4 h s k).heap.W.length/\(cW4 h s k).heap.W.length<=4096:=by
 have c:=cOk h s k hw hp e e2;have po:=Z0c hp;have hL:=c.i4.L;have hpl:=c.w2.pl;have hc2:=c.x2.c;have hc:(cW2 h s).heap.C=h.C:=hc2;rw[hc]at hpl;rw[c.h4.1]at hL;have hl4:=c.f4.wl;rw[c.h4.1,c.h4.2.1];refine⟨by omega,by omega,by omega, ?_,hl4⟩;have:(((cW2 h s).heap.P.length*h.C.pw.toNat:Nat):Int)=h.C.pw*h.C.pg:=by
  rw[LM,LO oq,hpl,Int.mul_comm]
 omega
end
def Z0j(h:Heap)(s k:List Int):Heap×List Int×List Int×Rep×Int :=
 if Z03 h=Lb then
  (if Z0i h s=Lb/\Z0i h k=Lb then
   (if(rootsF (beginW h) s).2.2=0 then
    (if(allF (rootsF (beginW h) s).1).2=0 then(endH (cW5 h s k),(rootsF (beginW h) s).2.1,Z5A (cW2 h s) k k.length,(cW5 h s k).rep,0)
    else(noHeap,[],[],rep0,(allF (rootsF (beginW h) s).1).2))
   else(noHeap,[],[],rep0,(rootsF (beginW h) s).2.2))
  else(noHeap,[],[],rep0,19))
 else(noHeap,[],[],rep0,1)
section
variable (h:Heap) (s k:List Int) (hw:WOk h.W) (hs:s.length<=1048575) (hk:k.length<=1048575) (hs2:ULe s) (hk2:ULe k)
include hw hs hk hs2 hk2
theorem ZkI(hp:Z03 h=Lb)(hr:Z0i h s=Lb)(hr':Z0i h k=Lb)(e:(rootsF (beginW h) s).2.2=0)(e2:(allF (rootsF (beginW h) s).1).2=0):GP 36 [h.av,Z01 s,Z01 k] Lc (.tu [(endH (cW5 h s k)).av,Z01 (rootsF (beginW h) s).2.1,Z01 (Z5A (cW2 h s) k k.length),.ag (cW5 h s k).rep.cells,int 0]) []:=by
 have hb:=Z52 hw hp;have hi:=Z4m hp;have hg:=Z4N hr;have ho:=Z4h (roots:=s) hb hi e;have ho1:=ho.1;have ho4:=ho.2.2.2.2;have c:=cOk h s k hw hp e e2;obtain⟨q1,q2,q3,q4,q5⟩:=cOk5 h s k hw hp e e2;have w2:=c.w2;have f3:=c.f3;have r3:=c.r3.1;obtain⟨g1,g2,g3,g4,g5⟩:=c.h4;have v1:=w2.W;have v2:=w2.wl;have v3:=w2.mu;have v4:=w2.tl;have v5:=w2.sp;have v6:=w2.r0.2.2;have v7:=congrArg LQ g4;have z1:(Z1t (cW4 h s k)).T=(cW4 h s k).T:=rfl;have v8:=congrArg LQ z1;have z2:(Z1t (cW4 h s k)).heap.S=(cW4 h s k).heap.S:=rfl;clear c;unfold cW4 at *;unfold cW3 at *;unfold cW2 at *;rcases bb (Le (0<(↑(Z1t (fillN (weakS (allF (rootsF (beginW h) s).1).1 k k.length) (weakS (allF (rootsF (beginW h) s).1).1 k k.length).old.length)).T.length:Int)))with hc0 | hc0<;>have hc0p:=hc0<;>simp only[bs]at hc0p
 .rw[show endH (cW5 h s k)=Heap.mk (Z1t (fillN (weakS (allF (rootsF (beginW h) s).1).1 k k.length) (weakS (allF (rootsF (beginW h) s).1).1 k k.length).old.length)).heap.C (Z1t (fillN (weakS (allF (rootsF (beginW h) s).1).1 k k.length) (weakS (allF (rootsF (beginW h) s).1).1 k k.length).old.length)).heap.W (Z1t (fillN (weakS (allF (rootsF (beginW h) s).1).1 k k.length) (weakS (allF (rootsF (beginW h) s).1).1 k k.length).old.length)).heap.P ((1:Int)-(Z1t (fillN (weakS (allF (rootsF (beginW h) s).1).1 k k.length) (weakS (allF (rootsF (beginW h) s).1).1 k k.length).old.length)).heap.S) ((Z1t (fillN (weakS (allF (rootsF (beginW h) s).1).1 k k.length) (weakS (allF (rootsF (beginW h) s).1).1 k k.length).old.length)).T.getD ((↑(Z1t (fillN (weakS (allF (rootsF (beginW h) s).1).1 k k.length) (weakS (allF (rootsF (beginW h) s).1).1 k k.length).old.length)).T.length:Int)-(1:Int)).toNat M)from by(simp only[endH,cW5,cW4,cW3,cW2,Z17] ;exact sj)];refine gspec_ofE [((20:Nat),[Hint.call Lb (Sx.bool (Z03 h)) []]),((21:Nat),[Hint.br Lc]),((26:Nat),[Hint.call Lb (Sx.bool (Z0i h s)) []]),((31:Nat),[Hint.call Lb (Sx.bool (Z0i h k)) []]),((33:Nat),[Hint.br Lc]),((38:Nat),[Hint.call Lc (AV.tu [(beginW h).av,int (0:Int)]) []]),((44:Nat),[Hint.call Lc (AV.tu [(rootsF (beginW h) s).1.av,Z01 (rootsF (beginW h) s).2.1,int (rootsF (beginW h) s).2.2]) []]),((49:Nat),[Hint.br Lc]),((55:Nat),[Hint.call Lc (AV.tu [(allF (rootsF (beginW h) s).1).1.av,int (allF (rootsF (beginW h) s).1).2]) []]),((59:Nat),[Hint.br Lc]),((15:Nat),[Hint.own]),((93:Nat),[Hint.call Lc (fillN (weakS (allF (rootsF (beginW h) s).1).1 k k.length) (weakS (allF (rootsF (beginW h) s).1).1 k k.length).old.length).av []]),((94:Nat),[Hint.call Lc (Z1t (fillN (weakS (allF (rootsF (beginW h) s).1).1 k k.length) (weakS (allF (rootsF (beginW h) s).1).1 k k.length).old.length)).av []]),((98:Nat),[Hint.int ((1:Int)-(Z1t (fillN (weakS (allF (rootsF (beginW h) s).1).1 k k.length) (weakS (allF (rootsF (beginW h) s).1).1 k k.length).old.length)).heap.S)]),((105:Nat),[Hint.int (↑(Z1t (fillN (weakS (allF (rootsF (beginW h) s).1).1 k k.length) (weakS (allF (rootsF (beginW h) s).1).1 k k.length).old.length)).T.length:Int)]),((107:Nat),[Hint.br Lb]),((111:Nat),[Hint.int ((↑(Z1t (fillN (weakS (allF (rootsF (beginW h) s).1).1 k k.length) (weakS (allF (rootsF (beginW h) s).1).1 k k.length).old.length)).T.length:Int)-(1:Int))]),((112:Nat),[Hint.el (idv ((Z1t (fillN (weakS (allF (rootsF (beginW h) s).1).1 k k.length) (weakS (allF (rootsF (beginW h) s).1).1 k k.length).old.length)).T.getD ((↑(Z1t (fillN (weakS (allF (rootsF (beginW h) s).1).1 k k.length) (weakS (allF (rootsF (beginW h) s).1).1 k k.length).old.length)).T.length:Int)-(1:Int)).toNat M))])] [((0:Nat),Tg.mk (tm (122:Nat) [((2:Nat),Z01 k),((6:Nat),AV.pt (8006:Nat) (0:Nat) (0:Nat)),((7:Nat),AV.d (DV.sl (0:Nat) [])),((8:Nat),AV.d (DV.sl (0:Nat) [])),((9:Nat),AV.pt (8009:Nat) (0:Nat) (0:Nat)),((10:Nat),int (0:Int)),((11:Nat),AV.pt (32011:Nat) (0:Nat) (0:Nat)),((13:Nat),Z01 (rootsF (beginW h) s).2.1),((15:Nat),AV.ow (72015:Nat)),((16:Nat),int (0:Int))]) [((72015:Nat),Blk.arr 35 (1:Nat) []),((32011:Nat),Blk.box 138 (allF (rootsF (beginW h) s).1).1.cells),((8009:Nat),Blk.box 73 [int (0:Int),int (0:Int),int (0:Int),int (0:Int),int (0:Int),int (0:Int)]),((8006:Nat),Blk.box 28 [int (0:Int),int (0:Int),AV.d (DV.sl (0:Nat) []),AV.d (DV.sl (0:Nat) []),int (0:Int),int (0:Int)])] (60:Nat),Ex.nrm,Tg.mk (tm (122:Nat) [((6:Nat),AV.pt (8006:Nat) (0:Nat) (0:Nat)),((7:Nat),AV.d (DV.sl (0:Nat) [])),((8:Nat),AV.d (DV.sl (0:Nat) [])),((9:Nat),AV.pt (8009:Nat) (0:Nat) (0:Nat)),((10:Nat),int (0:Int)),((11:Nat),AV.pt (32011:Nat) (0:Nat) (0:Nat)),((13:Nat),Z01 (rootsF (beginW h) s).2.1),((15:Nat),AV.ow (72015:Nat))]) [((72015:Nat),Blk.arr 35 (1:Nat) (La wdv (Z5A (allF (rootsF (beginW h) s).1).1 k k.length))),((32011:Nat),Blk.box 138 (weakS (allF (rootsF (beginW h) s).1).1 k k.length).cells),((8009:Nat),Blk.box 73 [int (0:Int),int (0:Int),int (0:Int),int (0:Int),int (0:Int),int (0:Int)]),((8006:Nat),Blk.box 28 [int (0:Int),int (0:Int),AV.d (DV.sl (0:Nat) []),AV.d (DV.sl (0:Nat) []),int (0:Int),int (0:Int)])] (60:Nat))] [] dd func36 [] (φ:=GP 65 [h.av] Lb (Sx.bool (Z03 h)) []/\(!Z03 h)=Lc/\Lc=Lc/\GP 42 [h.av,Z01 s] Lb (Sx.bool (Z0i h s)) []/\((!!Z0i h s)=Lb->GP 42 [h.av,Z01 k] Lb (Sx.bool (Z0i h k)) [])/\(!Z0i h s||!Z0i h k)=Lc/\Lc=Lc/\GP 82 [h.av] Lc (AV.tu [(beginW h).av,int (0:Int)]) []/\GP 83 [(beginW h).av,Z01 s] Lc (AV.tu [(rootsF (beginW h) s).1.av,Z01 (rootsF (beginW h) s).2.1,int (rootsF (beginW h) s).2.2]) []/\((rootsF (beginW h) s).2.2 != (0:Int))=Lc/\Lc=Lc/\GP 84 [(rootsF (beginW h) s).1.av] Lc (AV.tu [(allF (rootsF (beginW h) s).1).1.av,int (allF (rootsF (beginW h) s).1).2]) []/\((allF (rootsF (beginW h) s).1).2 != (0:Int))=Lc/\Lc=Lc/\CP (blkF f36 (0:Nat)) (Tg.mk (tm (122:Nat) [((2:Nat),Z01 k),((6:Nat),AV.pt (8006:Nat) (0:Nat) (0:Nat)),((7:Nat),AV.d (DV.sl (0:Nat) [])),((8:Nat),AV.d (DV.sl (0:Nat) [])),((9:Nat),AV.pt (8009:Nat) (0:Nat) (0:Nat)),((10:Nat),int (0:Int)),((11:Nat),AV.pt (32011:Nat) (0:Nat) (0:Nat)),((13:Nat),Z01 (rootsF (beginW h) s).2.1),((15:Nat),AV.ow (72015:Nat)),((16:Nat),int (0:Int))]) [((72015:Nat),Blk.arr 35 (1:Nat) []),((32011:Nat),Blk.box 138 (allF (rootsF (beginW h) s).1).1.cells),((8009:Nat),Blk.box 73 [int (0:Int),int (0:Int),int (0:Int),int (0:Int),int (0:Int),int (0:Int)]),((8006:Nat),Blk.box 28 [int (0:Int),int (0:Int),AV.d (DV.sl (0:Nat) []),AV.d (DV.sl (0:Nat) []),int (0:Int),int (0:Int)])] (60:Nat)).st Ex.nrm (Tg.mk (tm (122:Nat) [((6:Nat),AV.pt (8006:Nat) (0:Nat) (0:Nat)),((7:Nat),AV.d (DV.sl (0:Nat) [])),((8:Nat),AV.d (DV.sl (0:Nat) [])),((9:Nat),AV.pt (8009:Nat) (0:Nat) (0:Nat)),((10:Nat),int (0:Int)),((11:Nat),AV.pt (32011:Nat) (0:Nat) (0:Nat)),((13:Nat),Z01 (rootsF (beginW h) s).2.1),((15:Nat),AV.ow (72015:Nat))]) [((72015:Nat),Blk.arr 35 (1:Nat) (La wdv (Z5A (allF (rootsF (beginW h) s).1).1 k k.length))),((32011:Nat),Blk.box 138 (weakS (allF (rootsF (beginW h) s).1).1 k k.length).cells),((8009:Nat),Blk.box 73 [int (0:Int),int (0:Int),int (0:Int),int (0:Int),int (0:Int),int (0:Int)]),((8006:Nat),Blk.box 28 [int (0:Int),int (0:Int),AV.d (DV.sl (0:Nat) []),AV.d (DV.sl (0:Nat) []),int (0:Int),int (0:Int)])] (60:Nat)).st/\GP 87 [(weakS (allF (rootsF (beginW h) s).1).1 k k.length).av] Lc (fillN (weakS (allF (rootsF (beginW h) s).1).1 k k.length) (weakS (allF (rootsF (beginW h) s).1).1 k k.length).old.length).av []/\GP 86 [(fillN (weakS (allF (rootsF (beginW h) s).1).1 k k.length) (weakS (allF (rootsF (beginW h) s).1).1 k k.length).old.length).av] Lc (Z1t (fillN (weakS (allF (rootsF (beginW h) s).1).1 k k.length) (weakS (allF (rootsF (beginW h) s).1).1 k k.length).old.length)).av []/\Ln.wrap ((1:Int)-(Z1t (fillN (weakS (allF (rootsF (beginW h) s).1).1 k k.length) (weakS (allF (rootsF (beginW h) s).1).1 k k.length).old.length)).heap.S)=(1:Int)-(Z1t (fillN (weakS (allF (rootsF (beginW h) s).1).1 k k.length) (weakS (allF (rootsF (beginW h) s).1).1 k k.length).old.length)).heap.S/\(↑(La idv (Z1t (fillN (weakS (allF (rootsF (beginW h) s).1).1 k k.length) (weakS (allF (rootsF (beginW h) s).1).1 k k.length).old.length)).T).length:Int)=(↑(Z1t (fillN (weakS (allF (rootsF (beginW h) s).1).1 k k.length) (weakS (allF (rootsF (beginW h) s).1).1 k k.length).old.length)).T.length:Int)/\Le ((0:Int)<(↑(Z1t (fillN (weakS (allF (rootsF (beginW h) s).1).1 k k.length) (weakS (allF (rootsF (beginW h) s).1).1 k k.length).old.length)).T.length:Int))=Lb/\Lb=Lb/\Ln.wrap ((↑(Z1t (fillN (weakS (allF (rootsF (beginW h) s).1).1 k k.length) (weakS (allF (rootsF (beginW h) s).1).1 k k.length).old.length)).T.length:Int)-(1:Int))=(↑(Z1t (fillN (weakS (allF (rootsF (beginW h) s).1).1 k k.length) (weakS (allF (rootsF (beginW h) s).1).1 k k.length).old.length)).T.length:Int)-(1:Int)/\(0:Int)<=(↑(Z1t (fillN (weakS (allF (rootsF (beginW h) s).1).1 k k.length) (weakS (allF (rootsF (beginW h) s).1).1 k k.length).old.length)).T.length:Int)-(1:Int)/\(La idv (Z1t (fillN (weakS (allF (rootsF (beginW h) s).1).1 k k.length) (weakS (allF (rootsF (beginW h) s).1).1 k k.length).old.length)).T)[((↑(Z1t (fillN (weakS (allF (rootsF (beginW h) s).1).1 k k.length) (weakS (allF (rootsF (beginW h) s).1).1 k k.length).old.length)).T.length:Int)-(1:Int)).toNat]? = Lg (idv ((Z1t (fillN (weakS (allF (rootsF (beginW h) s).1).1 k k.length) (weakS (allF (rootsF (beginW h) s).1).1 k k.length).old.length)).T.getD ((↑(Z1t (fillN (weakS (allF (rootsF (beginW h) s).1).1 k k.length) (weakS (allF (rootsF (beginW h) s).1).1 k k.length).old.length)).T.length:Int)-(1:Int)).toNat M))) ?_ kr kr;exact⟨(@Z0e (h)),(by(simp only[bs];omega)),rfl,(@Z1D (h) (s) aa oq),(λhg=>by(try simp only[bs]at hg);exact @Z1D (h) (k) (by(try simp only[bs]at hg);assumption) (by(try simp only[bs]at hg);omega)),(by simp only[bs, *,true_or,or_true,true_and,and_true,not_true_eq_false,not_false_eq_true,Bool.true_eq_false,Bool.false_eq_true]),rfl,(@Z41 (h) aa aa aa),(@Z55 (beginW h) (s) aa aa aa),(by(simp only[bs];omega)),rfl,(@Zap ((rootsF (beginW h) s).1) aa),(by(simp only[bs];omega)),rfl,(@Zfo ((allF (rootsF (beginW h) s).1).1) (k) ((rootsF (beginW h) s).2.1) aa aa oq aa aa aa),(@Zcv (weakS (allF (rootsF (beginW h) s).1).1 k k.length) aa aa),(@ZbN (fillN (weakS (allF (rootsF (beginW h) s).1).1 k k.length) (weakS (allF (rootsF (beginW h) s).1).1 k k.length).old.length) aa oq aa aa aa),(by exact wrapI2 rfl oq oq),(by simp only[Li]),aa,rfl,(by exact wrapI2 rfl oq oq),(by exact elI oq oq oq)⟩
 .rw[show endH (cW5 h s k)=Heap.mk (Z1t (fillN (weakS (allF (rootsF (beginW h) s).1).1 k k.length) (weakS (allF (rootsF (beginW h) s).1).1 k k.length).old.length)).heap.C (Z1t (fillN (weakS (allF (rootsF (beginW h) s).1).1 k k.length) (weakS (allF (rootsF (beginW h) s).1).1 k k.length).old.length)).heap.W (Z1t (fillN (weakS (allF (rootsF (beginW h) s).1).1 k k.length) (weakS (allF (rootsF (beginW h) s).1).1 k k.length).old.length)).heap.P ((1:Int)-(Z1t (fillN (weakS (allF (rootsF (beginW h) s).1).1 k k.length) (weakS (allF (rootsF (beginW h) s).1).1 k k.length).old.length)).heap.S) (-1:Int)from by(simp[endH,cW5,cW4,cW3,cW2,Z17, *];omega)];let y1:=rootsF (beginW h) s;let y0:=weakS (allF y1.1).1 k k.length;let y2:=fillN y0 y0.old.length;exact gF [] func36 [] (Fh 15 [.own] (Fc 20 (@Z0e h) (Ffb 21 (!Z03 h) (Fc 26 (@Z1D h s aa oq) (FcG 31 (!!Z0i h s) (λhg=>by(try simp only[bs]at hg);exact @Z1D h k aa oq) (Ffs 33 (!Z0i h s||!Z0i h k) (Fc 38 (@Z41 h aa aa aa) (Fc 44 (@Z55 (beginW h) s aa aa aa) (Ffb 49 (y1.2.2 != 0) (Fc 55 (@Zap (y1.1) aa) (Ffb 59 ((allF y1.1).2 != 0) (Fu (@Zfo ((allF y1.1).1) k (y1.2.1) aa aa oq aa aa aa) (Fc 93 (@Zcv y0 aa aa) (Fc 94 (@ZbN y2 aa oq aa aa aa) (Fi 98 (1-(Z1t y2).heap.S) (Fl 105 idv (Z1t y2).T (Ff 107 hc0 Fz)))))))))))))))))
end
def pinB(w:WorldM)(i:Nat)(n:Int):WorldM:=⟨⟨w.heap.C,w.heap.W,w.heap.P.set i ⟨(w.heap.P.getD i M).K,(w.heap.P.getD i M).S,(w.heap.P.getD i M).U,(w.heap.P.getD i M).N+n⟩,w.heap.S,w.heap.B⟩,w.G,w.E⟩
def pinI(w:WorldM)(t:Tape):Nat:=(ofA w.heap.C (w.pick t)).1.toNat
def WorldM.pin(w:WorldM)(t:Tape):WorldM :=
  if(ofA w.heap.C (w.pick t)).2.2=0 then
    (if 0<(w.heap.P.getD (pinI w t) M).N/\(w.pickT t).next 2=0 then pinB w (pinI w t) (-1)
     else if 0<(w.heap.P.getD (pinI w t) M).N\/(w.heap.P.getD (pinI w t) M).K=2\/(crowd w.heap.P:Int)<w.heap.C.pg/4 then pinB w (pinI w t) 1 else w)else w
def WorldM.pinT(w:WorldM)(t:Tape):Tape:=if(ofA w.heap.C (w.pick t)).2.2=0/\0<(w.heap.P.getD (pinI w t) M).N then(w.pickT t).step 2 else w.pickT t
def Zlq(w:WorldM)(t:Tape)(hw:WMok w)(ht:TOk t)(ha:t.at'<=1000000)(hv:Z06 w.heap.C=Lb)(hp:(w.heap.P.length:Int)=w.heap.C.pg)(hpn:∀ j,j<w.heap.P.length->-1048576<=(w.heap.P.getD j M).N/\(w.heap.P.getD j M).N<=4294967296):LP 104 [w.av,.pt 0 0 0] [t.b] (w.pin t).av [(w.pinT t).b]:=by
 have hb:=validB_iff.1 hv;have s1:=Zb7 w t;have k1:=Z3n ht s1.2.2 oq oq;have p1:=Z3I hw t;have q1:=hpn (pinI w t);have hcr:=Z3G w.heap.P w.heap.P.length;unfold pinI at q1;have o1:=λe=>Z4r (a:=w.pick t) hv e;by_cases e:(ofA w.heap.C (w.pick t)).2.2=0
 .have o2:=o1 e;by_cases c1:0<(w.heap.P.getD (ofA w.heap.C (w.pick t)).1.toNat M).N
  .have eT:w.pinT t=(w.pickT t).step 2:=by rw[WorldM.pinT,if_pos ⟨e,c1⟩]
   by_cases c2:(w.pickT t).next 2=0
   .have eP:w.pin t=⟨⟨w.heap.C,w.heap.W,w.heap.P.set (ofA w.heap.C (w.pick t)).1.toNat ⟨(w.heap.P.getD (ofA w.heap.C (w.pick t)).1.toNat M).K,(w.heap.P.getD (ofA w.heap.C (w.pick t)).1.toNat M).S,(w.heap.P.getD (ofA w.heap.C (w.pick t)).1.toNat M).U,(w.heap.P.getD (ofA w.heap.C (w.pick t)).1.toNat M).N-1⟩,w.heap.S,w.heap.B⟩,w.G,w.E⟩:=by rw[WorldM.pin,if_pos e,if_pos ⟨c1,c2⟩];rfl
    rw[eP,eT];exact lF func104 [] (Fh 42 [.br Lb] (Fh 37 [.br Lb] (Fh 51 [.el (w.heap.P.getD (ofA w.heap.C (w.pick t)).1.toNat M).dv] (Fp 12 (@Z1O w t aa aa oq) (Fc 18 (@Z4f w.heap.C (w.pick t) oq oq) (Ffb 23 ((ofA w.heap.C (w.pick t)).2.2 != 0) (FA 25 29 Page.dv w.heap.P (Fmq 41 Page.dv w.heap.P ((ofA w.heap.C (w.pick t)).1) (Fb (Le (0<(w.heap.P.getD (ofA w.heap.C (w.pick t)).1.toNat M).N)=Lb) (Fp 45 (@Z0d (w.pickT t) (2) aa oq oq) (Fb (((w.pickT t).next (2:Int)==0)=Lb) (Fa (by exact Z0I oq:(La Page.dv w.heap.P)[(ofA w.heap.C (w.pick t)).1.toNat]? = Lg (w.heap.P.getD (ofA w.heap.C (w.pick t)).1.toNat M).dv) (Fi 52 ((w.heap.P.getD (ofA w.heap.C (w.pick t)).1.toNat M).N-1) (Fa (by exact Z0I oq:(La Page.dv w.heap.P)[(ofA w.heap.C (w.pick t)).1.toNat]? = Lg (w.heap.P.getD (ofA w.heap.C (w.pick t)).1.toNat M).dv) (FS 10054 Page.dv w.heap.P ((ofA w.heap.C (w.pick t)).1.toNat) (Page.mk (w.heap.P.getD (ofA w.heap.C (w.pick t)).1.toNat M).K (w.heap.P.getD (ofA w.heap.C (w.pick t)).1.toNat M).S (w.heap.P.getD (ofA w.heap.C (w.pick t)).1.toNat M).U ((w.heap.P.getD (ofA w.heap.C (w.pick t)).1.toNat M).N-1)) ((w.heap.P.getD (ofA w.heap.C (w.pick t)).1.toNat M).dv) Fz)))))))))))))))
   .have eP:w.pin t=⟨⟨w.heap.C,w.heap.W,w.heap.P.set (ofA w.heap.C (w.pick t)).1.toNat ⟨(w.heap.P.getD (ofA w.heap.C (w.pick t)).1.toNat M).K,(w.heap.P.getD (ofA w.heap.C (w.pick t)).1.toNat M).S,(w.heap.P.getD (ofA w.heap.C (w.pick t)).1.toNat M).U,(w.heap.P.getD (ofA w.heap.C (w.pick t)).1.toNat M).N+1⟩,w.heap.S,w.heap.B⟩,w.G,w.E⟩:=by rw[WorldM.pin,if_pos e,if_neg (λq=>c2 q.2),if_pos (.inl c1)];rfl
    rw[eP,eT];exact lF func104 [] (Fh 42 [.br Lb] (Fh 37 [.br Lc] (Fh 59 [.el (w.heap.P.getD (ofA w.heap.C (w.pick t)).1.toNat M).dv] (Fh 65 [.el (w.heap.P.getD (ofA w.heap.C (w.pick t)).1.toNat M).dv] (Fh 76 [.int (w.heap.C.pg/4)] (Fh 55 [.br Lb] (Fh 82 [.el (w.heap.P.getD (ofA w.heap.C (w.pick t)).1.toNat M).dv] (Fp 12 (@Z1O w t aa aa oq) (Fc 18 (@Z4f w.heap.C (w.pick t) oq oq) (Ffb 23 ((ofA w.heap.C (w.pick t)).2.2 != 0) (FA 25 29 Page.dv w.heap.P (Fmq 41 Page.dv w.heap.P ((ofA w.heap.C (w.pick t)).1) (Fb (Le (0<(w.heap.P.getD (ofA w.heap.C (w.pick t)).1.toNat M).N)=Lb) (Fp 45 (@Z0d (w.pickT t) (2) aa oq oq) (Fb (((w.pickT t).next (2:Int)==0)=Lc) (Fa (by exact Z0I oq:(La Page.dv w.heap.P)[(ofA w.heap.C (w.pick t)).1.toNat]? = Lg (w.heap.P.getD (ofA w.heap.C (w.pick t)).1.toNat M).dv) (Fa (by intro hg;(try simp only[bs]at hg);exact Z0I oq:(!decide (0<(w.heap.P.getD (ofA w.heap.C (w.pick t)).1.toNat M).N))=Lb->(La Page.dv w.heap.P)[(ofA w.heap.C (w.pick t)).1.toNat]? = Lg (w.heap.P.getD (ofA w.heap.C (w.pick t)).1.toNat M).dv) (FcG 71 (!(Le (0<(w.heap.P.getD (ofA w.heap.C (w.pick t)).1.toNat M).N)||(w.heap.P.getD (ofA w.heap.C (w.pick t)).1.toNat M).K==2)) (λhg=>by(try simp only[bs]at hg);exact @Z8i w.heap oq) (Fa (by intro hg;(try simp only[bs]at hg);rw[wrapI' oq oq];omega:(!(Le (0<(w.heap.P.getD (ofA w.heap.C (w.pick t)).1.toNat M).N)||(w.heap.P.getD (ofA w.heap.C (w.pick t)).1.toNat M).K==2))=Lb->Ln.wrap (w.heap.C.pg.tdiv 4)=w.heap.C.pg/4) (Fa (by intro hg;(try simp only[bs]at hg);omega:(!(Le (0<(w.heap.P.getD (ofA w.heap.C (w.pick t)).1.toNat M).N)||(w.heap.P.getD (ofA w.heap.C (w.pick t)).1.toNat M).K==2))=Lb->(4:Int)=0->False) (Fb ((Le (0<(w.heap.P.getD (ofA w.heap.C (w.pick t)).1.toNat M).N)||(w.heap.P.getD (ofA w.heap.C (w.pick t)).1.toNat M).K==2||Le ((↑(crowd w.heap.P):Int)<w.heap.C.pg/4))=Lb) (Fa (by exact Z0I oq:(La Page.dv w.heap.P)[(ofA w.heap.C (w.pick t)).1.toNat]? = Lg (w.heap.P.getD (ofA w.heap.C (w.pick t)).1.toNat M).dv) (Fi 83 ((w.heap.P.getD (ofA w.heap.C (w.pick t)).1.toNat M).N+1) (Fa (by exact Z0I oq:(La Page.dv w.heap.P)[(ofA w.heap.C (w.pick t)).1.toNat]? = Lg (w.heap.P.getD (ofA w.heap.C (w.pick t)).1.toNat M).dv) (FS 10085 Page.dv w.heap.P ((ofA w.heap.C (w.pick t)).1.toNat) (Page.mk (w.heap.P.getD (ofA w.heap.C (w.pick t)).1.toNat M).K (w.heap.P.getD (ofA w.heap.C (w.pick t)).1.toNat M).S (w.heap.P.getD (ofA w.heap.C (w.pick t)).1.toNat M).U ((w.heap.P.getD (ofA w.heap.C (w.pick t)).1.toNat M).N+1)) ((w.heap.P.getD (ofA w.heap.C (w.pick t)).1.toNat M).dv) Fz)))))))))))))))))))))))))
  .have eT:w.pinT t=w.pickT t:=by rw[WorldM.pinT,if_neg (λq=>c1 q.2)]
   by_cases c3:(w.heap.P.getD (ofA w.heap.C (w.pick t)).1.toNat M).K=2\/(crowd w.heap.P:Int)<w.heap.C.pg/4
   .have eP:w.pin t=⟨⟨w.heap.C,w.heap.W,w.heap.P.set (ofA w.heap.C (w.pick t)).1.toNat ⟨(w.heap.P.getD (ofA w.heap.C (w.pick t)).1.toNat M).K,(w.heap.P.getD (ofA w.heap.C (w.pick t)).1.toNat M).S,(w.heap.P.getD (ofA w.heap.C (w.pick t)).1.toNat M).U,(w.heap.P.getD (ofA w.heap.C (w.pick t)).1.toNat M).N+1⟩,w.heap.S,w.heap.B⟩,w.G,w.E⟩:=by rw[WorldM.pin,if_pos e,if_neg (λq=>c1 q.1),if_pos (.inr c3)];rfl
    rw[eP,eT];exact lF func104 [] (Fh 42 [.br Lc] (Fh 45 [.bor [0] (int ((w.pickT t).next 2)) [((w.pickT t).step 2).b]] (Fh 59 [.el (w.heap.P.getD (ofA w.heap.C (w.pick t)).1.toNat M).dv] (Fh 65 [.el (w.heap.P.getD (ofA w.heap.C (w.pick t)).1.toNat M).dv] (Fh 76 [.int (w.heap.C.pg/4)] (Fh 55 [.br Lb] (Fh 82 [.el (w.heap.P.getD (ofA w.heap.C (w.pick t)).1.toNat M).dv] (Fp 12 (@Z1O w t aa aa oq) (Fc 18 (@Z4f w.heap.C (w.pick t) oq oq) (Ffb 23 ((ofA w.heap.C (w.pick t)).2.2 != 0) (FA 25 29 Page.dv w.heap.P (Fmq 41 Page.dv w.heap.P ((ofA w.heap.C (w.pick t)).1) (Fb (Le (0<(w.heap.P.getD (ofA w.heap.C (w.pick t)).1.toNat M).N)=Lc) (Fa (by exact Z0I oq:(La Page.dv w.heap.P)[(ofA w.heap.C (w.pick t)).1.toNat]? = Lg (w.heap.P.getD (ofA w.heap.C (w.pick t)).1.toNat M).dv) (Fa (by intro hg;(try simp only[bs]at hg);exact Z0I oq:(!decide (0<(w.heap.P.getD (ofA w.heap.C (w.pick t)).1.toNat M).N))=Lb->(La Page.dv w.heap.P)[(ofA w.heap.C (w.pick t)).1.toNat]? = Lg (w.heap.P.getD (ofA w.heap.C (w.pick t)).1.toNat M).dv) (FcG 71 (!(Le (0<(w.heap.P.getD (ofA w.heap.C (w.pick t)).1.toNat M).N)||(w.heap.P.getD (ofA w.heap.C (w.pick t)).1.toNat M).K==2)) (λhg=>by(try simp only[bs]at hg);exact @Z8i w.heap oq) (Fa (by intro hg;(try simp only[bs]at hg);rw[LN oq,wrapI' oq oq]:(!(Le (0<(w.heap.P.getD (ofA w.heap.C (w.pick t)).1.toNat M).N)||(w.heap.P.getD (ofA w.heap.C (w.pick t)).1.toNat M).K==2))=Lb->Ln.wrap (w.heap.C.pg.tdiv 4)=w.heap.C.pg/4) (Fa (by intro hg;(try simp only[bs]at hg);omega:(!(Le (0<(w.heap.P.getD (ofA w.heap.C (w.pick t)).1.toNat M).N)||(w.heap.P.getD (ofA w.heap.C (w.pick t)).1.toNat M).K==2))=Lb->(4:Int)=0->False) (Fb ((Le (0<(w.heap.P.getD (ofA w.heap.C (w.pick t)).1.toNat M).N)||(w.heap.P.getD (ofA w.heap.C (w.pick t)).1.toNat M).K==2||Le ((↑(crowd w.heap.P):Int)<w.heap.C.pg/4))=Lb) (Fa (by exact Z0I oq:(La Page.dv w.heap.P)[(ofA w.heap.C (w.pick t)).1.toNat]? = Lg (w.heap.P.getD (ofA w.heap.C (w.pick t)).1.toNat M).dv) (Fi 83 ((w.heap.P.getD (ofA w.heap.C (w.pick t)).1.toNat M).N+1) (Fa (by exact Z0I oq:(La Page.dv w.heap.P)[(ofA w.heap.C (w.pick t)).1.toNat]? = Lg (w.heap.P.getD (ofA w.heap.C (w.pick t)).1.toNat M).dv) (FS 10085 Page.dv w.heap.P ((ofA w.heap.C (w.pick t)).1.toNat) (Page.mk (w.heap.P.getD (ofA w.heap.C (w.pick t)).1.toNat M).K (w.heap.P.getD (ofA w.heap.C (w.pick t)).1.toNat M).S (w.heap.P.getD (ofA w.heap.C (w.pick t)).1.toNat M).U ((w.heap.P.getD (ofA w.heap.C (w.pick t)).1.toNat M).N+1)) ((w.heap.P.getD (ofA w.heap.C (w.pick t)).1.toNat M).dv) Fz)))))))))))))))))))))))
   .have eP:w.pin t=w:=by rw[WorldM.pin,if_pos e,if_neg (λq=>c1 q.1),if_neg (λq=>q.elim c1 c3)]
    rw[eP,eT];exact lF func104 [] (Fh 42 [.br Lc] (Fh 45 [.bor [0] (int ((w.pickT t).next 2)) [((w.pickT t).step 2).b]] (Fh 59 [.el (w.heap.P.getD (ofA w.heap.C (w.pick t)).1.toNat M).dv] (Fh 65 [.el (w.heap.P.getD (ofA w.heap.C (w.pick t)).1.toNat M).dv] (Fh 76 [.int (w.heap.C.pg/4)] (Fh 55 [.br Lc] (Fp 12 (@Z1O w t aa aa oq) (Fc 18 (@Z4f w.heap.C (w.pick t) oq oq) (Ffb 23 ((ofA w.heap.C (w.pick t)).2.2 != 0) (FA 25 29 Page.dv w.heap.P (Fmq 41 Page.dv w.heap.P ((ofA w.heap.C (w.pick t)).1) (Fb (Le (0<(w.heap.P.getD (ofA w.heap.C (w.pick t)).1.toNat M).N)=Lc) (Fa (by exact Z0I oq:(La Page.dv w.heap.P)[(ofA w.heap.C (w.pick t)).1.toNat]? = Lg (w.heap.P.getD (ofA w.heap.C (w.pick t)).1.toNat M).dv) (Fa (by intro hg;(try simp only[bs]at hg);exact Z0I oq:(!decide (0<(w.heap.P.getD (ofA w.heap.C (w.pick t)).1.toNat M).N))=Lb->(La Page.dv w.heap.P)[(ofA w.heap.C (w.pick t)).1.toNat]? = Lg (w.heap.P.getD (ofA w.heap.C (w.pick t)).1.toNat M).dv) (FcG 71 (!(Le (0<(w.heap.P.getD (ofA w.heap.C (w.pick t)).1.toNat M).N)||(w.heap.P.getD (ofA w.heap.C (w.pick t)).1.toNat M).K==2)) (λhg=>by(try simp only[bs]at hg);exact @Z8i w.heap oq) (Fa (by intro hg;(try simp only[bs]at hg);rw[LN oq,wrapI' oq oq]:(!(Le (0<(w.heap.P.getD (ofA w.heap.C (w.pick t)).1.toNat M).N)||(w.heap.P.getD (ofA w.heap.C (w.pick t)).1.toNat M).K==2))=Lb->Ln.wrap (w.heap.C.pg.tdiv 4)=w.heap.C.pg/4) (Fa (by intro hg;(try simp only[bs]at hg);omega:(!(Le (0<(w.heap.P.getD (ofA w.heap.C (w.pick t)).1.toNat M).N)||(w.heap.P.getD (ofA w.heap.C (w.pick t)).1.toNat M).K==2))=Lb->(4:Int)=0->False) (Fb ((Le (0<(w.heap.P.getD (ofA w.heap.C (w.pick t)).1.toNat M).N)||(w.heap.P.getD (ofA w.heap.C (w.pick t)).1.toNat M).K==2||Le ((↑(crowd w.heap.P):Int)<w.heap.C.pg/4))=Lc) Fz))))))))))))))))))
 .have eP:w.pin t=w:=by rw[WorldM.pin,if_neg e]
  have eT:w.pinT t=w.pickT t:=by rw[WorldM.pinT,if_neg (λq=>e q.1)]
  rw[eP,eT];exact lF func104 [] (Fp 12 (@Z1O w t aa aa oq) (Fc 18 (@Z4f w.heap.C (w.pick t) oq oq) (Ftb 23 ((ofA w.heap.C (w.pick t)).2.2 != 0) Fz)))
def Z6X(h:Heap)(s k:List Int)(hw:WOk h.W)(hs:s.length<=1048575)(hk:k.length<=1048575)(hs2:ULe s)(hk2:ULe k):GP 36 [h.av,Z01 s,Z01 k] Lc (.tu [(Z0j h s k).1.av,Z01 (Z0j h s k).2.1,Z01 (Z0j h s k).2.2.1,.ag (Z0j h s k).2.2.2.1.cells,int (Z0j h s k).2.2.2.2]) []:=by
 unfold Z0j;by_cases hp:Z03 h=Lb
 .rw[if_pos hp];by_cases hr:Z0i h s=Lb/\Z0i h k=Lb
  .rw[if_pos hr];by_cases e:(rootsF (beginW h) s).2.2=0
   .rw[if_pos e];by_cases e2:(allF (rootsF (beginW h) s).1).2=0
    .rw[if_pos e2];exact ZkI h s k hw hs hk hs2 hk2 hp hr.1 hr.2 e e2
    .rw[if_neg e2];exact Zkt h s k hw hs hk hs2 hk2 hp hr.1 hr.2 e e2
   .rw[if_neg e];exact ZkV h s k hw hs hk hs2 hk2 hp hr.1 hr.2 e
  .rw[if_neg hr];refine ZjO h s k hw hs hk hs2 hk2 hp ?_;by_cases q:Z0i h s=Lb
   .refine Lm ?_;have:¬ Z0i h k=Lb:=λq2=>hr ⟨q,q2⟩;simpa using this
   .exact Lr (by simpa using q)
 .rw[if_neg hp];exact Zlo h s k hw hs hk hs2 hk2 (by simpa using hp)
def WorldM.collect(w:WorldM):WorldM:=if(Z0j w.heap w.G w.E).2.2.2.2=0 then⟨(Z0j w.heap w.G w.E).1,(Z0j w.heap w.G w.E).2.1,(Z0j w.heap w.G w.E).2.2.1⟩else w
def Zd4(w:WorldM)(hw:WOk w.heap.W)(hs:w.G.length<=1048575)(hk:w.E.length<=1048575)(hs2:ULe w.G)(hk2:ULe w.E):GP 23 [w.av] Lc w.collect.av []:=by
 by_cases e:(Z0j w.heap w.G w.E).2.2.2.2=0
 .have e7:w.collect=⟨(Z0j w.heap w.G w.E).1,(Z0j w.heap w.G w.E).2.1,(Z0j w.heap w.G w.E).2.2.1⟩:=by rw[WorldM.collect,if_pos e]
  rw[e7];exact gF [] func23 [] (Fc 15 (@Z6X w.heap w.G w.E aa aa aa aa aa) (Ftb 22 ((Z0j w.heap w.G w.E).2.2.2.2==0) Fz))
 .have e7:w.collect=w:=by rw[WorldM.collect,if_neg e]
  rw[e7];exact gF [] func23 [] (Fc 15 (@Z6X w.heap w.G w.E aa aa aa aa aa) (Ffb 22 ((Z0j w.heap w.G w.E).2.2.2.2==0) Fz))
section
variable (P:Work->Prop) (hf:∀ w r,WkOk w->CIv w->P w->(w.fwd r).2.2=0->P (w.fwd r).1)
 (hin:∀ w q j,WkOk w->CIv w->P w->q∈w.Q->0<=j->j<hlA w.heap.W q->(w.fwd (loadA w.heap.W (q+1+j)).1).2.2=0->P (w.in1 (q+1+j))) (hsd:∀ w n,P w->P (ZfU w n))
include hin in
theorem ZlJ{w:Work}(hw:WkOk w)(h:CIv w)(hp:P w){q:Int}(hq:q∈w.Q){l:List Int}(hl:∀ x∈l,0<=x/\x<hlA w.heap.W q):∀ k,k<=l.length->(∀ j,j<k->innE w q l j=0)->P (innN w q l k)
 | 0,_,_=>hp
 | k+1,hk,he=>by
  have ih:=ZlJ hw h hp hq hl k oq (λj hj=>he j oq);have ok:=(Z4M hw q l k (λj hj=>he j oq)).1;have iv:=ZaC hw h hq hl k oq (λj hj=>he j oq);have hx:=hl _ (getD_mem_iff.2 ⟨k,by omega,rfl⟩);exact hin _ q (l.getD k M) ok iv.1 ih (iv.2.q q hq) hx.1 (by rw[iv.2.l q hq];exact hx.2) (he k oq)
include hin hsd in
theorem ZhX{w:Work}(hw:WkOk w)(h:CIv w)(hp:P w)(e:(Z0O w).2.2=0):P (Z0O w).1:=by
 by_cases hs:w.D<w.Q.length
 .have hsc:=hw.sc;have hq:Z3C w∈w.Q:=getD_mem_iff.2 ⟨w.D.toNat,by omega,rfl⟩;unfold Z0O at e ⊢;rw[if_pos hs]at e ⊢;cases hb:(Lv (Z27 w).length).find? (λk=>Le (innE w (Z3C w) (Z27 w) k≠0))with
  | none =>
   have h0:∀ j,j<(Z27 w).length->innE w (Z3C w) (Z27 w) j=0:=λj hj=>by
    have:=Lx.1 hb j (Lq.2 hj);simpa using this
   exact hsd _ _ (ZlJ P hin hw h hp hq (l:=Z27 w) (Z6T (hdW w (Z3C w))) (Z27 w).length (Lj _) h0)
  | some k =>
   simp only[hb]at e;have:=(Ls.1 hb).1;simp[e]at this
 .have e:Z0O w=(w,Lc,0):=by rw[Z0O,if_neg hs]
  rw[e];exact hp
include hin hsd in
theorem ZnU{w:Work}(hw:WkOk w)(h:CIv w)(hp:P w):∀ k,(∀ j,j<k->Z3P w j=Lc)->P (itW w k)
 | 0,_=>hp
 | k+1,hh=>by
  have ih:=ZnU hw h hp k (λj hj=>hh j oq);have ok:=(Z4g hw k (λj hj=>hh j oq)).1;have iv:=(ZaW hw h k (λj hj=>hh j oq)).1;have hk:=hh k oq;simp only[Z3P,decide_eq_false_iff_not,not_or,Lw]at hk;exact ZhX P hin hsd ok iv ih hk.1
include hin hsd in
theorem Zoz{w:Work}(hw:WkOk w)(h:CIv w)(hp:P w)(e:(allF w).2=0):P (allF w).1:=by
 obtain⟨k,hb⟩:=Z65 hw;obtain⟨h1,h2,h3⟩:=Ls.1 hb;have h0:∀ j,j<k->Z3P w j=Lc:=λj hj=>by simpa using h3 j hj
 unfold allF at e ⊢;rw[hb]at e ⊢;simp only at e ⊢;split at e
 .rename_i c;rw[if_pos c];exact ZhX P hin hsd (Z4g hw k h0).1 (ZaW hw h k h0).1 (ZnU P hin hsd hw h hp k h0) c
 .rename_i c;exact absurd e c
include hf in
theorem ZeI{w:Work}{roots:List Int}(hw:WkOk w)(h:CIv w)(hp:P w):∀ k,(∀ j,j<k->Z2x w roots j=0)->P (Z1x w roots k).1
 | 0,_=>hp
 | k+1,hh=>by
  have ih:=ZeI hw h hp k (λj hj=>hh j oq);have ok:=(Z3c (roots:=roots) hw k (λj hj=>hh j oq)).1;have iv:=(Z6B (roots:=roots) hw h k (λj hj=>hh j oq)).1;exact hf _ _ ok iv ih (hh k oq)
include hf in
theorem ZkD{w:Work}{roots:List Int}(hw:WkOk w)(h:CIv w)(hp:P w)(e:(rootsF w roots).2.2=0):P (rootsF w roots).1:=by
 unfold rootsF at e ⊢;cases hb:(Lv roots.length).find? (λk=>Le (Z2x w roots k≠0))with
 | none =>
  have h0:∀ j,j<roots.length->Z2x w roots j=0:=λj hj=>by
   have:=Lx.1 hb j (Lq.2 hj);simpa using this
  exact ZeI P hf hw h hp roots.length h0
 | some k =>
  simp only[hb]at e;have:=(Ls.1 hb).1;simp[e]at this
include hf hin hsd in
theorem Zpc{h:Heap}{s:List Int}(hw:WOk h.W)(hp:Z03 h=Lb)(h0:P (beginW h))(e:(rootsF (beginW h) s).2.2=0)(e2:(allF (rootsF (beginW h) s).1).2=0):P (cW2 h s):=by
 have hb:=Z52 hw hp;have hi:=Z4m hp;have ho:=Z4h (roots:=s) hb hi e;exact Zoz P hin hsd ho.1 ho.2.1 (ZkD P hf hb hi h0 e) e2
end
def ZiL{l:List Page}{i k:Nat}(h:∀ m,m<k->i+1+m<l.length/\(l.getD (i+1+m) M).K=3):k<=Z0x l i:=by
 by_cases hc:k<=Z0x l i
 .exact hc
 .have h1:=h (Z0x l i) oq;exact absurd h1.2 (Zfr h1.1)
def PT.flip{c:Conf}{l:List Page}(h:PT c l){i:Nat}(hi:i<l.length)(hk:(l.getD i M).K=2){s:Int}(hs:0<=s/\s<=1):PT c (Z0J l i (Z0x l i) s):=by
 have hr:∀ j,i<j->j<=i+Z0x l i->(l.getD j M).K=3:=λj h1 h2=>by
  have:=(Zdb (l:=l) (i:=i) (m:=j-i-1) oq).2;rwa [show i+1+(j-i-1)=j by omega]at this
 have hg:∀ j,j<l.length->((Z0J l i (Z0x l i) s).getD j M).K=(l.getD j M).K/\((Z0J l i (Z0x l i) s).getD j M).U=(l.getD j M).U/\((Z0J l i (Z0x l i) s).getD j M).N=(l.getD j M).N:=λj hj=>by
  rw[Z2v hj];split
  .exact⟨rfl,rfl,rfl⟩
  .exact⟨rfl,rfl,rfl⟩
 refine⟨?_, ?_, ?_⟩
 .intro j hj;rw[Z1X]at hj;have b:=h.b j hj;rw[Z2v hj];split
  .rename_i hc;refine⟨hs,b.n,b.k,λq=>?_,b.k1,b.k3⟩;exfalso;have q':(l.getD j M).K=0:=q;by_cases hij:j=i
   .subst hij;omega
   .have:=hr j oq hc.2;omega
  .exact b
 .intro j hj hk2;rw[Z1X]at hj ⊢;rw[(hg j hj).1]at hk2;rw[(hg j hj).2.1];have q:=h.lg j hj hk2;refine⟨q.1,λm h1 h2=>?_⟩;have r:=q.2 m h1 h2;refine⟨r.1,by rw[(hg _ r.1).1];exact r.2.1, ?_⟩;rw[Z2v r.1,Z2v hj];by_cases hij:j=i
  .subst hij;have hT:(need c (l.getD j M).U-1).toNat<=Z0x l j:=ZiL λm' hm'=>by
    have:=q.2 (m'+1) oq oq;rw[show j+1+m'=j+(m'+1) by omega];exact⟨this.1,this.2.1⟩
   rw[if_pos oq,if_pos oq];rfl
  .have hj1:¬ (i<=j/\j<=i+Z0x l i):=λhc=>by
    have:=hr j oq hc.2;omega
   have hj2:¬ (i<=j+m/\j+m<=i+Z0x l i):=λhc=>by
    by_cases hlt:j<i
    .by_cases he:j+m=i
     .have:=r.2.1;rw[he]at this;omega
     .have:=(q.2 (i-j) oq oq).2.1;rw[show j+(i-j)=i by omega]at this;omega
    .omega
   rw[if_neg hj1,if_neg hj2];exact r.2.2
 .intro j hj hk3;rw[Z1X]at hj;rw[(hg j hj).1]at hk3;obtain⟨a,a1,a2,a3⟩:=h.tl j hj hk3;exact⟨a,a1,by rw[(hg a oq).1];exact a2,by rw[(hg a oq).2.1];exact a3⟩
structure Tab (B:Int) (w:Work):Prop where
 pt:PT w.heap.C w.heap.P
 tk:∀ x∈w.T,(w.heap.P.getD x.toNat M).S=1-w.heap.S
 pin:∀ p∈w.heap.P,p.N<=B
def Tab.withWords{B:Int}{w:Work}(h:Tab B w)(l:List Int):Tab B ⟨⟨w.heap.C,l,w.heap.P,w.heap.S,w.heap.B⟩,w.old,w.T,w.Q,w.D,w.rep⟩:=⟨h.pt,h.tk,h.pin⟩
def Tab.place{B:Int}(hB:0<=B){w:Work}(hw:WkOk w)(h:Tab B w){n:Int}(hn:1<=n/\n<=w.heap.C.pw)(hc:(w.place n).2.2=Lb):PT (w.place n).1.heap.C (w.place n).1.heap.P/\(∀ x∈(w.place n).1.T,((w.place n).1.heap.P.getD x.toNat M).S=1-(w.place n).1.heap.S)/\∀ p∈(w.place n).1.heap.P,p.N<=B:=by
 have hsp:=hw.sp;by_cases hf:Z6s w n
 .have e:w.place n=(⟨⟨w.heap.C,w.heap.W,Z2F w.heap.P (Z17 w).toNat n,w.heap.S,w.heap.B⟩,w.old,w.T,w.Q,w.D,w.rep⟩,4096+Z17 w*w.heap.C.pw+(w.heap.P.getD (Z17 w).toNat M).U,Lb):=by rw[Work.place,if_pos hf]
  unfold Z6s at hf;have hm:=hw.tk _ (Z22 hf.1);have hi:(Z17 w).toNat<w.heap.P.length:=by omega
  have ok:=h.pt.b _ hi;have u:=ok.k1 hm.2.2;rw[e];refine⟨h.pt.setPage hi (Lm hm.2.2) ⟨ok.s,ok.n,ok.k,λq=>by simp only at q;omega,λ_=>by simp only;omega,λq=>by simp only at q;omega⟩ (Lm hm.2.2), ?_, ?_⟩
  .intro x hx;simp only;rw[Zan,Z1w hi];split
   .rename_i q;have:=h.tk _ (Z22 hf.1);simp only;omega
   .exact h.tk x hx
  .intro p hp;rcases LH hp with hp | rfl
   .exact h.pin p hp
   .exact h.pin (w.heap.P.getD (Z17 w).toNat M) (getD_in hi)
 .by_cases hg:0<=Z0L w
  .have e:w.place n=(⟨⟨w.heap.C,w.heap.W,Z2F (Z30 w) (Z0L w).toNat n,w.heap.S,w.heap.B⟩,w.old,w.T++[Z0L w],w.Q,w.D,w.rep⟩,4096+Z0L w*w.heap.C.pw,Lb):=by rw[Work.place,if_neg hf,if_pos hg]
   obtain⟨g1,g2,g3⟩:=Z9A (h:=⟨w.heap.C,w.heap.W,w.heap.P,1-w.heap.S,w.heap.B⟩) (by simp only;omega) hg n;have g1':Z2F (Z30 w) (Z0L w).toNat n=w.heap.P.set (Z0L w).toNat ⟨1,1-w.heap.S,n,0⟩:=g1;have g2':(w.heap.P.getD (Z0L w).toNat M).K=0:=g2;have g3':(Z0L w).toNat<w.heap.P.length:=g3;rw[e,g1'];refine⟨h.pt.setPage g3' (Lr g2') ⟨by simp only;omega,by simp,by simp,by simp,λ_=>by simp only;omega,by simp⟩ (Lm rfl), ?_, ?_⟩
   .intro x hx;simp only at hx ⊢;rw[Z1w g3'];split
    .rfl
    .rename_i hne;rcases Lp.1 hx with hx | hx
     .exact h.tk x hx
     .simp at hx;subst hx;exact absurd rfl hne
   .intro p hp;rcases LH hp with hp | rfl
    .exact h.pin p hp
    .exact hB
  .rw[Work.place,if_neg hf,if_neg hg]at hc;simp at hc
def Tab.fwd{B:Int}(hB:0<=B)(w:Work)(r:Int)(hw:WkOk w)(hi:CIv w)(h:Tab B w)(e:(w.fwd r).2.2=0):Tab B (w.fwd r).1:=by
 unfold Work.fwd at e ⊢;split at e
 .rename_i c1;rw[if_pos c1];exact h
 .rename_i c1;rw[if_neg c1];split at e
  .simp at e
  .rename_i c2;rw[if_neg c2];have c2':r∈w.old:=Lw.1 c2;split at e
   .rename_i c3;rw[if_pos c3];exact h
   .rename_i c3;rw[if_neg c3];split at e
    .simp at e
    .rename_i c4;rw[if_neg c4];split at e
     .rename_i c5;rw[if_pos c5];exact⟨h.pt,h.tk,h.pin⟩
     .rename_i c5;rw[if_neg c5];split at e
      .rename_i c6;rw[if_pos c6];have hsp:=hw.sp;have o:=Z4r hw.C (Lw.1 c4);have hpl:=hw.pl;have hl:Z2m w r<w.heap.P.length:=by unfold Z2m;omega
       refine⟨h.pt.flip hl c6 oq, ?_, ?_⟩
       .intro x hx;have t:=hw.tk x hx;simp only[Work.keep,Work.flip];rw[Z2v oq];split
        .rename_i hc;exfalso;by_cases hx':x.toNat=Z2m w r
         .rw[hx']at t;omega
         .have:=(Zdb (l:=w.heap.P) (i:=Z2m w r) (m:=x.toNat-Z2m w r-1) oq).2;rw[show Z2m w r+1+(x.toNat-Z2m w r-1)=x.toNat by omega]at this;omega
        .exact h.tk x hx
       .intro p hp;simp only[Work.keep,Work.flip,Z0J,LG,Lq]at hp;obtain⟨j,hj,rfl⟩:=hp;split
        .exact h.pin (w.heap.P.getD j M) (getD_in hj)
        .exact h.pin (w.heap.P.getD j M) (getD_in hj)
      .rename_i c6;rw[if_neg c6];split at e
       .simp at e
       .rename_i c7;rw[if_neg c7];have c7':(w.place (sizeH (hdW w r))).2.2=Lb:=by simpa using c7
        have hz:=hi.z r c2';have hs:=Z63 w r;have hp:sizeH (hdW w r)<=w.heap.C.pw:=by
         rw[ZaY];rcases hz with hz | hz
         .exact absurd hz c6
         .exact hz
        obtain⟨q1,q2,q3⟩:=h.place hB hw ⟨hs.1,hp⟩ c7';exact⟨q1,q2,q3⟩
def ZiF{B:Int}{h:Heap}(hp:Z03 h=Lb)(hb:∀ p∈h.P,p.N<=B):Tab B (beginW h):=by
 have hp':=hp;rw[Z2c]at hp';have hs:=hp'.2.2.2.1;refine⟨?_,by simp[beginW], ?_⟩
 .refine hp'.2.2.2.2.2.mapPages _ ?_ ?_ ?_ ?_
  .intro p hp;unfold begQ;split
   .rename_i hc;exact⟨by simp only;omega,hp.n,hp.k,λq=>by simp only at q;omega,hp.k1,λq=>by simp only at q;omega⟩
   .exact hp
  .intro p hp hk;unfold begQ at hk ⊢;split at hk
   .rename_i hc;simp only at hk;omega
   .rename_i hc;rw[if_neg hc];exact⟨hk,rfl⟩
  .intro p hp hk;unfold begQ at hk;split at hk
   .rename_i hc;simp only at hk;omega
   .exact hk
  .intro p q hp hq h2 h3 he;have e1:begQ (1-h.S) p=p:=by rw[begQ,if_neg oq]
   have e2:begQ (1-h.S) q=q:=by rw[begQ,if_neg oq]
   rw[e1,e2];exact⟨⟨λ_=>h3,λ_=>h2⟩,λ_=>he⟩
 .intro p hp;simp only[beginW,LG]at hp;obtain⟨q,hq,rfl⟩:=hp;unfold begQ;split
  .exact hb q hq
  .exact hb q hq
def Znm{B:Int}(hB:0<=B){h:Heap}{s:List Int}(hw:WOk h.W)(hp:Z03 h=Lb)(hb:∀ p∈h.P,p.N<=B)(e:(rootsF (beginW h) s).2.2=0)(e2:(allF (rootsF (beginW h) s).1).2=0):Tab B (cW2 h s) :=
 Zpc (Tab B) (λw r hw hi h e=>h.fwd hB w r hw hi e) (λw q j hw hi h hq h0 h1 e=>(Tab.fwd hB w _ hw hi h e).withWords _) (λw n h=>⟨h.pt,h.tk,h.pin⟩) hw hp (ZiF hp hb) e e2
structure MOk (w:WorldM) (n:Nat):Prop where
 W:WOk w.heap.W
 hv:Z06 w.heap.C=Lb
 pl:(w.heap.P.length:Int)=w.heap.C.pg
 L:(w.heap.W.length:Int)=w.heap.C.pw*w.heap.C.pg
 N:∀ j,j<w.heap.P.length->0<=(w.heap.P.getD j M).N/\(w.heap.P.getD j M).N<=n
 us:∀ j,j<w.heap.P.length->0<=(w.heap.P.getD j M).U/\(w.heap.P.getD j M).U<=256
 G:ULe w.G
 E:ULe w.E
 sl:w.G.length<=n
 wl:w.E.length<=n
def MOk.wm{w:WorldM}{n:Nat}(h:MOk w n)(hn:n<=1000000):WMok w:=⟨h.W,h.G,h.E,LZ h.sl oq,LZ h.wl oq⟩
def WorldM.dup(w:WorldM)(t:Tape):WorldM:=⟨w.heap,w.G++[w.pick t],w.E⟩
def WorldM.step(w:WorldM)(t:Tape):WorldM :=
 if t.next 12<=3 then w.put ((t.step 12).header w.heap.C)
 else if t.next 12<=6 then w.link (t.step 12)
 else if t.next 12<=7 then w.pin (t.step 12)
 else if t.next 12<=9 then w.drop (t.step 12)
 else if t.next 12<=10 then w.collect
 else w.dup (t.step 12)
def WorldM.stepT(w:WorldM)(t:Tape):Tape :=
 if t.next 12<=3 then(t.step 12).headerT w.heap.C
 else if t.next 12<=6 then w.linkT (t.step 12)
 else if t.next 12<=7 then w.pinT (t.step 12)
 else if t.next 12<=9 then w.dropT (t.step 12)
 else if t.next 12<=10 then t.step 12
 else w.pickT (t.step 12)
def Z9P(t:Tape)(c:Conf):0<=(t.header c).map/\(t.header c).map<=4294967295:=by
 have h:∀ n:Int,0<=((Z2Y t c).step 4).next (2^(min (min n 32) 12).toNat)/\((Z2Y t c).step 4).next (2^(min (min n 32) 12).toNat)<=4294967295:=by
  intro n;have p:=Zm6 (n:=min (min n 32) 12) oq;have r:=Z0Q ((Z2Y t c).step 4) (n:=2^(min (min n 32) 12).toNat) p.1;omega
 unfold Tape.header;split
 .simp
 .split
  .simp
  .exact h _
def Z0M(t:Tape)(d:Int)(hd:t.next 12=d)(ht:TOk t):LP 22 [.pt 0 0 0,int 12] [t.b] (int d) [(t.step 12).b]:=by
 rw[<- hd];exact Z0d t 12 ht dd dd
section
variable (w:WorldM) (t:Tape) (n:Nat) (hm:MOk w n) (hn:n<=1000000) (ht:TOk t) (ha:t.at'<=900000)
include hm hn ht ha
theorem Zi6:LP 54 [w.av,.pt 0 0 0] [t.b] (w.step t).av [(w.stepT t).b]:=by
 have hw:=hm.wm hn;have h1:=hm.W;have h2:=hm.G;have h3:=hm.E;have h4:=hm.sl;have h5:=hm.wl;have s1:=Z2M (t:=t) 12;have k1:=Z3n ht s1.2.2 oq oq;have n1:=Z0Q t (n:=12) dd;have hmap:=Z9P (t.step 12) w.heap.C;have hv:=hm.hv;have hpl:=hm.pl;have hpn:∀ j,j<w.heap.P.length->-1048576<=(w.heap.P.getD j M).N/\(w.heap.P.getD j M).N<=4294967296:=λj hj=>by
  have:=hm.N j hj;omega
 have hd:t.next 12=0\/t.next 12=1\/t.next 12=2\/t.next 12=3\/t.next 12=4\/t.next 12=5\/t.next 12=6\/t.next 12=7\/t.next 12=8\/t.next 12=9\/t.next 12=10\/t.next 12=11:=by omega
 rcases hd with hd | hd | hd | hd | hd | hd | hd | hd | hd | hd | hd | hd
 .have e7:w.step t=w.put ((t.step 12).header w.heap.C):=by simp[WorldM.step,hd]
  have e8:w.stepT t=(t.step 12).headerT w.heap.C:=by simp[WorldM.stepT,hd]
  rw[e7,e8];exact lF func54 [] (Fp 6 (@Z0M t (0) aa aa) (Fp 17 (@Z51 (t.step 12) w.heap.C aa oq aa) (Fc 18 (@Z62 w ((t.step 12).header w.heap.C) aa aa) Fz)))
 .have e7:w.step t=w.put ((t.step 12).header w.heap.C):=by simp[WorldM.step,hd]
  have e8:w.stepT t=(t.step 12).headerT w.heap.C:=by simp[WorldM.stepT,hd]
  rw[e7,e8];exact lF func54 [] (Fp 6 (@Z0M t (1) aa aa) (Fp 17 (@Z51 (t.step 12) w.heap.C aa oq aa) (Fc 18 (@Z62 w ((t.step 12).header w.heap.C) aa aa) Fz)))
 .have e7:w.step t=w.put ((t.step 12).header w.heap.C):=by simp[WorldM.step,hd]
  have e8:w.stepT t=(t.step 12).headerT w.heap.C:=by simp[WorldM.stepT,hd]
  rw[e7,e8];exact lF func54 [] (Fp 6 (@Z0M t (2) aa aa) (Fp 17 (@Z51 (t.step 12) w.heap.C aa oq aa) (Fc 18 (@Z62 w ((t.step 12).header w.heap.C) aa aa) Fz)))
 .have e7:w.step t=w.put ((t.step 12).header w.heap.C):=by simp[WorldM.step,hd]
  have e8:w.stepT t=(t.step 12).headerT w.heap.C:=by simp[WorldM.stepT,hd]
  rw[e7,e8];exact lF func54 [] (Fp 6 (@Z0M t (3) aa aa) (Fp 17 (@Z51 (t.step 12) w.heap.C aa oq aa) (Fc 18 (@Z62 w ((t.step 12).header w.heap.C) aa aa) Fz)))
 .have e7:w.step t=w.link (t.step 12):=by simp[WorldM.step,hd]
  have e8:w.stepT t=w.linkT (t.step 12):=by simp[WorldM.stepT,hd]
  rw[e7,e8];exact lF func54 [] (Fp 6 (@Z0M t (4) aa aa) (Fp 25 (@Z8p w (t.step 12) aa aa oq) Fz))
 .have e7:w.step t=w.link (t.step 12):=by simp[WorldM.step,hd]
  have e8:w.stepT t=w.linkT (t.step 12):=by simp[WorldM.stepT,hd]
  rw[e7,e8];exact lF func54 [] (Fp 6 (@Z0M t (5) aa aa) (Fp 25 (@Z8p w (t.step 12) aa aa oq) Fz))
 .have e7:w.step t=w.link (t.step 12):=by simp[WorldM.step,hd]
  have e8:w.stepT t=w.linkT (t.step 12):=by simp[WorldM.stepT,hd]
  rw[e7,e8];exact lF func54 [] (Fp 6 (@Z0M t (6) aa aa) (Fp 25 (@Z8p w (t.step 12) aa aa oq) Fz))
 .have e7:w.step t=w.pin (t.step 12):=by simp[WorldM.step,hd]
  have e8:w.stepT t=w.pinT (t.step 12):=by simp[WorldM.stepT,hd]
  rw[e7,e8];exact lF func54 [] (Fp 6 (@Z0M t (7) aa aa) (Fp 30 (@Zlq w (t.step 12) aa aa oq aa oq aa) Fz))
 .have e7:w.step t=w.drop (t.step 12):=by simp[WorldM.step,hd]
  have e8:w.stepT t=w.dropT (t.step 12):=by simp[WorldM.stepT,hd]
  rw[e7,e8];exact lF func54 [] (Fp 6 (@Z0M t (8) aa aa) (Fp 36 (@ZcZ w (t.step 12) aa aa oq) Fz))
 .have e7:w.step t=w.drop (t.step 12):=by simp[WorldM.step,hd]
  have e8:w.stepT t=w.dropT (t.step 12):=by simp[WorldM.stepT,hd]
  rw[e7,e8];exact lF func54 [] (Fp 6 (@Z0M t (9) aa aa) (Fp 36 (@ZcZ w (t.step 12) aa aa oq) Fz))
 .have e7:w.step t=w.collect:=by simp[WorldM.step,hd]
  have e8:w.stepT t=t.step 12:=by simp[WorldM.stepT,hd]
  rw[e7,e8];exact lF func54 [] (Fp 6 (@Z0M t (10) aa aa) (Fc 40 (@Zd4 w aa oq oq aa aa) Fz))
 .have e7:w.step t=w.dup (t.step 12):=by simp[WorldM.step,hd]
  have e8:w.stepT t=w.pickT (t.step 12):=by simp[WorldM.stepT,hd]
  rw[e7,e8];exact lF func54 [] (Fh 49 [.els (La wdv (w.G++[w.pick (t.step 12)]))] (Fp 6 (@Z0M t (11) aa aa) (FAx 41 44 wdv w.G (by(simp[WorldM.dup, *];omega)) (Fp 47 (@Z1O w (t.step 12) aa aa oq) (Fs 48 (La wdv [w.pick (t.step 12)]) (Fa (by(simp[WorldM.dup, *];omega):(La wdv w.G).length+(La wdv [w.pick (t.step 12)]).length<=2^30) (Fa (by simp[WorldM.dup,LD,LC,Lu,LB,wdv,idv]:La wdv w.G++La wdv [w.pick (t.step 12)]=La wdv (w.G++[w.pick (t.step 12)])) Fz)))))))
end
def Z9v{pw s:Int}{l:List Page}{ws:List Int}(h:WOk ws):∀ i,WOk (Z2y pw s l ws i)
 | 0=>h
 | i+1=>by
  have ih:=Z9v (pw:=pw) (s:=s) (l:=l) h i;unfold Z2y;split
  .intro x hx;simp only[spl,Lp,LI]at hx;rcases hx with(hx | hx) | hx
   .exact ih x (LV hx)
   .omega
   .exact ih x (LU hx)
  .exact ih
def Zm2{c:Conf}{l:List Page}(h:PT c l)(s:Int):PT c (l.map (Z2n s)):=by
 refine h.mapPages _ ?_ ?_ ?_ ?_
 .intro p hp;unfold Z2n;split
  .exact⟨by simp,by simp,by simp,by simp,by simp,by simp⟩
  .exact hp
 .intro p hp hk;unfold Z2n at hk ⊢;split at hk
  .simp at hk
  .rename_i hc;rw[if_neg hc];exact⟨hk,rfl⟩
 .intro p hp hk;unfold Z2n at hk;split at hk
  .simp at hk
  .exact hk
 .intro p q hp hq h2 h3 he;by_cases hg:p.S=s
  .have e1:Z2n s p=⟨0,0,0,0⟩:=by rw[Z2n,if_pos ⟨by omega,hg⟩]
   have e2:Z2n s q=⟨0,0,0,0⟩:=by rw[Z2n,if_pos ⟨by omega,by omega⟩]
   rw[e1,e2];simp
  .have e1:Z2n s p=p:=by rw[Z2n,if_neg (by unfold Z6G;omega)]
   have e2:Z2n s q=q:=by rw[Z2n,if_neg (by unfold Z6G;omega)]
   rw[e1,e2];exact⟨⟨λ_=>h3,λ_=>h2⟩,λ_=>he⟩
def Z8h{w:Work}(hw:WkOk w)(k:List Int):∀ i,∀ x∈Z5A w k i,0<=x/\x<=4294967296
 | 0,x,hx=>by simp[Z5A]at hx
 | i+1,x,hx=>by
  simp only[Z5A,Lp,LL]at hx;rcases hx with hx | rfl
  .exact Z8h hw k i x hx
  .have h:=Z7s w k i;unfold Z8R;split
   .omega
   .unfold Z1v;rw[h.2.2.2.1,h.1];split
    .rename_i hq;have:=hw.q _ hq;omega
    .have:=Z60 (Z0w hw.W (k.getD i M)).1;omega
structure ColOk (B:Int) (h:Heap) (s k:List Int):Prop where
 p0:Z03 h=Lb
 p1:Z03 (Z0j h s k).1=Lb
 w:WOk (Z0j h s k).1.W
 n:∀ p∈(Z0j h s k).1.P,p.N<=B
 c:(Z0j h s k).1.C=h.C
 r:∀ x∈(Z0j h s k).2.1,0<=x/\x<=4294967296
 rl:(Z0j h s k).2.1.length=s.length
 v:∀ x∈(Z0j h s k).2.2.1,0<=x/\x<=4294967296
 vl:(Z0j h s k).2.2.1.length=k.length
def Zg0{B:Int}(hB:0<=B){h:Heap}{s k:List Int}(hw:WOk h.W)(hb:∀ p∈h.P,p.N<=B)(e:(Z0j h s k).2.2.2.2=0):ColOk B h s k:=by
 by_cases hp:Z03 h=Lb
 .by_cases hr:Z0i h s=Lb/\Z0i h k=Lb
  .by_cases e1:(rootsF (beginW h) s).2.2=0
   .by_cases e2:(allF (rootsF (beginW h) s).1).2=0
    .have e7:Z0j h s k=(endH (cW5 h s k),(rootsF (beginW h) s).2.1,Z5A (cW2 h s) k k.length,(cW5 h s k).rep,0):=by rw[Z0j,if_pos hp,if_pos hr,if_pos e1,if_pos e2]
     have ho:=Z4h (roots:=s) (Z52 hw hp) (Z4m hp) e1;have c:=cOk h s k hw hp e1 e2;have c5:=cOk5 h s k hw hp e1 e2;have tb:=Znm hB hw hp hb e1 e2;obtain⟨g1,g2,g3,g4,g5⟩:=c.h4;have hsp:=c.w2.sp;have hc2:(cW2 h s).heap.C=h.C:=c.x2.c;have hpl:=c.w2.pl;rw[hc2]at hpl;have hL:=c.i4.L;rw[g1]at hL;have hfl:=Z4X (s:=(cW4 h s k).heap.S) c5.2.2.2.1 (cW4 h s k).heap.P.length (Lj _);refine⟨hp, ?_, ?_, ?_, ?_, ?_, ?_, ?_, ?_⟩
     .rw[e7,Z2c];simp only[endH,cW5,Z1t,g1,g2,g3,g4];have hptf:=Zm2 (s:=(cW2 h s).heap.S) tb.pt;rw[hc2]at hptf;refine⟨(Z0c hp).1, ?_,by simp only[Li];exact hpl,by omega, ?_,hptf⟩
      .rw[g1,g2,g3]at hfl;rw[hfl];exact hL
      .split
       .rename_i ht;have hm:=Z22 (w:=cW2 h s) ht;have t1:=c.w2.tk _ hm;have t2:=tb.tk _ hm;refine Lm ⟨t1.1,by simp only[Li];exact t1.2.1, ?_⟩;have hx:(La (Z2n (cW2 h s).heap.S) (cW2 h s).heap.P).getD (Z17 (cW2 h s)).toNat M=(cW2 h s).heap.P.getD (Z17 (cW2 h s)).toNat M:=by
         have hi:(Z17 (cW2 h s)).toNat<(cW2 h s).heap.P.length:=by omega
         have:(La (Z2n (cW2 h s).heap.S) (cW2 h s).heap.P).getD (Z17 (cW2 h s)).toNat M=Z2n (cW2 h s).heap.S ((cW2 h s).heap.P.getD (Z17 (cW2 h s)).toNat M):=by simp[Ll,hi]
         rw[this,Z2n,if_neg (by unfold Z6G;omega)]
        show((La (Z2n (cW2 h s).heap.S) (cW2 h s).heap.P).getD (Z17 (cW2 h s)).toNat M).K=1;rw[hx];exact t1.2.2
       .exact Lr rfl
     .rw[e7];exact Z9v c.f4.W _
     .rw[e7];intro p hp';simp only[endH,cW5,Z1t,g2,LG]at hp';obtain⟨q,hq,rfl⟩:=hp';unfold Z2n;split
      .exact hB
      .exact tb.pin q hq
     .rw[e7];exact g1
     .rw[e7];exact ho.2.2.2.1
     .rw[e7];exact ho.2.2.2.2
     .rw[e7];exact Z8h c.w2 k _
     .rw[e7];exact Z8L _ _ _
    .rw[Z0j,if_pos hp,if_pos hr,if_pos e1,if_neg e2]at e;exact absurd e e2
   .rw[Z0j,if_pos hp,if_pos hr,if_neg e1]at e;exact absurd e e1
  .rw[Z0j,if_pos hp,if_neg hr]at e;simp at e
 .rw[Z0j,if_neg hp]at e;simp at e
def Zdt{h:Heap}(hp:Z03 h=Lb):∀ p∈h.P,0<=p.N:=by
 rw[Z2c]at hp;intro p hp';obtain⟨i,hi,e⟩:=LS.1 hp';have:=(hp.2.2.2.2.2.b i hi).n.1;rwa [show h.P.getD i M=p by rw[Ll,Ly hi,e];rfl]at this
def MOk.of_proper{w:WorldM}{n:Nat}(hp:Z03 w.heap=Lb)(hw:WOk w.heap.W)(hn:∀ p∈w.heap.P,p.N<=n)(h1:ULe w.G)(h2:ULe w.E)(h3:w.G.length<=n)(h4:w.E.length<=n):MOk w n:=by
 have po:=Z0c hp;exact⟨hw,po.1,po.2.2.2.2.2.2.2.1,po.2.2.2.2.2.1,λj hj=>⟨Zdt hp _ (getD_in hj),hn _ (getD_in hj)⟩,λj hj=>by have:=Z1i hp hj;omega,h1,h2,h3,h4⟩
def MOk.pin_mem{w:WorldM}{n:Nat}(h:MOk w n):∀ p∈w.heap.P,0<=p.N/\p.N<=n:=by
 intro p hp;obtain⟨i,hi,e⟩:=LS.1 hp;have:=h.N i hi;rwa [show w.heap.P.getD i M=p by rw[Ll,Ly hi,e];rfl]at this
def MOk.mono{w:WorldM}{n:Nat}(h:MOk w n):MOk w (n+1) :=
 ⟨h.W,h.hv,h.pl,h.L,λj hj=>by have:=h.N j hj;omega,h.us,h.G,h.E,by have:=h.sl;omega,by have:=h.wl;omega⟩
def Zdm{l:List Int}(h:ULe l){x:Int}(hx:0<=x/\x<=18446744073709551615):ULe (l++[x]):=by
 intro y hy;simp only[Lp,LL]at hy;rcases hy with hy | rfl
 .exact h y hy
 .exact hx
def MOk.put{w:WorldM}{n:Nat}(h:MOk w n){hd:Header}(hm:0<=hd.map/\hd.map<=4294967295):MOk (w.put hd) (n+1):=by
 unfold WorldM.put;split
 .rename_i e;obtain⟨k1,k2,k3,k4,k5,k6,k7,k8⟩:=ZmC h.W hm e;have po:=Z0c k1;have hl:=h.sl;have hl2:=h.wl;have z:=(Zb2 k2).2.1;have a1:=k3.lo;have a2:=k3.hi;refine MOk.of_proper k7 k8 ?_ (Zdm h.G (by rw[k5];omega)) h.E qo (by simp only;omega);intro p hp;simp only at hp;rw[k6]at hp;simp only at hp;rcases k3.pin p hp with q | ⟨q,q1,q2⟩
  .omega
  .have:=h.pin_mem q q1;omega
 .exact h.mono
def MOk.link{w:WorldM}{n:Nat}(h:MOk w n)(hn:n<=1000000)(t:Tape):MOk (w.link t) (n+1):=by
 unfold WorldM.link;split
 .rename_i hc;have g:=Z39 hc.1;have hw:=h.wm hn;have hlen:1<=(getH w.heap (w.pick t)).1.length:=by omega
  have n1:=Z0Q (w.pickT (w.pickT t)) (n:=8) dd;have hi:0<=Z74 w t/\Z74 w t<(getH w.heap (w.pick t)).1.length:=by
   unfold Z74;rw[Int.tmod_eq_emod_of_nonneg n1.1];exact⟨Int.emod_nonneg _ oq,Int.emod_lt_of_pos _ oq⟩
  have hv:0<=Z96 w t/\Z96 w t<=18446744073709551615:=by
   unfold Z96;split
   .exact Z3I hw _
   .have:=Z0Q ((w.pickT (w.pickT t)).step 8) (n:=1048576) dd;omega
  obtain⟨s1,s2,s3⟩:=ZdU h.W hv hc.1 hi;have hl:=h.sl;have hl2:=h.wl;refine MOk.of_proper s2 s3 ?_ h.G h.E (by simp only;omega) (by simp only;omega);intro p hp;simp only at hp;rw[s1]at hp;have:=h.pin_mem p hp;omega
 .exact h.mono
def Zjc{w:WorldM}{n:Nat}(h:MOk w n){i:Nat}(hi:i<w.heap.P.length){d:Int}(hd:d=1\/(d=-1/\0<(w.heap.P.getD i M).N)):MOk (pinB w i d) (n+1):=by
 have hp:=h.N i hi;refine⟨h.W,h.hv, ?_,h.L, ?_, ?_,h.G,h.E,by have:=h.sl;simp only[pinB];omega,by have:=h.wl;simp only[pinB];omega⟩
 .simp only[pinB,Lt];exact h.pl
 .intro j hj;simp only[pinB,Lt]at hj ⊢;rw[Z1w hi];split
  .simp only;omega
  .have:=h.N j hj;omega
 .intro j hj;simp only[pinB,Lt]at hj ⊢;rw[Z1w hi];split
  .exact h.us i hi
  .exact h.us j hj
def MOk.pin{w:WorldM}{n:Nat}(h:MOk w n)(t:Tape):MOk (w.pin t) (n+1):=by
 unfold WorldM.pin;split
 .rename_i e;have o:=Z4r h.hv e;have hpl:=h.pl;have hi:pinI w t<w.heap.P.length:=by unfold pinI;omega
  split
  .rename_i hc;exact Zjc h hi (Lm ⟨rfl,hc.1⟩)
  .split
   .exact Zjc h hi (Lr rfl)
   .exact h.mono
 .exact h.mono
def MOk.drop{w:WorldM}{n:Nat}(h:MOk w n)(t:Tape):MOk (w.drop t) (n+1):=by
 unfold WorldM.drop;split
 .have hl:=h.sl;have hl2:=h.wl;refine⟨h.W,h.hv,h.pl,h.L,λj hj=>by have:=h.N j hj;simp only;omega,h.us, ?_, ?_, ?_, ?_⟩
  .intro x hx;rcases Lp.1 hx with hx | hx
   .exact h.G x (LV hx)
   .exact h.G x (LU hx)
  .simp only;split
   .exact Zdm h.E (Z3T h.G _)
   .exact h.E
  .simp only[Lz,LA,List.length_drop];omega
  .simp only;split
   .simp;omega
   .omega
 .exact h.mono
def MOk.collect{w:WorldM}{n:Nat}(h:MOk w n):MOk w.collect (n+1):=by
 unfold WorldM.collect;split
 .rename_i e;have c:=Zg0 (B:=n) oq h.W (λp hp=>(h.pin_mem p hp).2) e;have hl:=h.sl;have hl2:=h.wl;refine MOk.of_proper c.p1 c.w (λp hp=>by have:=c.n p hp;omega) (λx hx=>by have:=c.r x hx;omega) (λx hx=>by have:=c.v x hx;omega) (by simp only[c.rl];omega) (by simp only[c.vl];omega)
 .exact h.mono
def MOk.step{w:WorldM}{n:Nat}(h:MOk w n)(hn:n<=1000000)(t:Tape):MOk (w.step t) (n+1):=by
 unfold WorldM.step;repeat' split
 .exact h.put (Z9P _ _)
 .exact h.link hn _
 .exact h.pin _
 .exact h.drop _
 .exact h.collect
 .have hl:=h.sl;have hl2:=h.wl;exact⟨h.W,h.hv,h.pl,h.L,λj hj=>by have:=h.N j hj;simp only[WorldM.dup]at *;omega,h.us,Zdm h.G (Z3I (h.wm hn) _),h.E,by simp only[WorldM.dup,Lz,LR];omega,by simp only[WorldM.dup];omega⟩
def ZbX(h:Heap):GP 34 [h.av] Lb (bool (Le (h.W.length<=5000/\h.P.length<=100))) []:=by
 exact gF [] func34 (fO 4) (Fl 5 wdv h.W (FlG 10 (Le ((h.W.length:Int)<=5000)) Page.dv h.P (Fa (by grind[]:(Le ((h.W.length:Int)<=5000)&&Le ((h.P.length:Int)<=100))=Le (h.W.length<=5000/\h.P.length<=100)) Fz)))
def Z6P(w:WorldM)(t:Tape)(n:Nat)(hm:MOk w n)(hn:n<=1000000)(ht:TOk t)(ha:t.at'<=900000):LP 54 [w.av,.pt 0 0 0] [t.b] (w.step t).av [(w.stepT t).b] :=
 Zi6 w t n hm hn ht ha
structure TUp (n:Int) (t u:Tape):Prop where
 l:u.l=t.l
 lo:t.at'<=u.at'
 hi:u.at'<=t.at'+n
def TUp.step(t:Tape)(n:Int):TUp 1 t (t.step n):=by
 have:=Z2M (t:=t) n;exact⟨this.2.2,this.1,this.2.1⟩
def TUp.trans{m n:Int}{t u v:Tape}(h1:TUp m t u)(h2:TUp n u v):TUp (m+n) t v :=
 ⟨h2.l.trans h1.l,by have:=h1.lo;have:=h2.lo;omega,by have:=h1.hi;have:=h2.hi;omega⟩
def TUp.mono{m n:Int}{t u:Tape}(h:TUp m t u)(hmn:m<=n):TUp n t u:=⟨h.l,h.lo,by have:=h.hi;omega⟩
def Zg9(t:Tape)(c:Conf):TUp 10 t (t.headerT c):=by
 have h1:TUp 4 t (Z2Y t c):=by
  unfold Z2Y;split
  .exact(((TUp.step t _).trans (TUp.step _ 12)).trans (TUp.step _ _)).mono dd
  .exact((TUp.step t _).trans (TUp.step _ 12)).mono dd
 unfold Tape.headerT;repeat' split
 .exact(h1.trans (TUp.step _ 4)).mono dd
 .exact(h1.trans (TUp.step _ 4)).mono dd
 .exact((h1.trans (TUp.step _ 4)).trans (TUp.step _ _)).mono dd
def ZjQ(w:WorldM)(t:Tape):TUp 10 t (w.linkT t):=by
 have h1:TUp 1 t (w.pickT t):=TUp.step _ _;have h2:TUp 1 (w.pickT t) (w.pickT (w.pickT t)):=TUp.step _ _;unfold WorldM.linkT;split
 .exact((((h1.trans h2).trans (TUp.step _ 8))).trans (TUp.step _ _)).mono dd
 .exact((h1.trans h2).trans (TUp.step _ 8)).mono dd
def Zlr(w:WorldM)(t:Tape):(w.stepT t).l=t.l/\t.at'+1<=(w.stepT t).at'/\(w.stepT t).at'<=t.at'+20:=by
 have h0:(t.step 12).at'=t.at'+1/\(t.step 12).l=t.l:=by simp[Tape.step]
 have key:TUp 10 (t.step 12) (w.stepT t):=by
  unfold WorldM.stepT;repeat' split
  .exact Zg9 _ _
  .exact ZjQ _ _
  .unfold WorldM.pinT;split
   .exact((TUp.step _ _).trans (TUp.step _ 2)).mono dd
   .exact(TUp.step _ _).mono dd
  .unfold WorldM.dropT;split
   .exact((TUp.step _ _).trans (TUp.step _ 3)).mono dd
   .exact⟨rfl,by omega,by omega⟩
  .exact⟨rfl,by omega,by omega⟩
  .exact(TUp.step _ _).mono dd
 have a:=key.l;have b:=key.lo;have c:=key.hi;exact⟨a.trans h0.2,by omega,by omega⟩
def mkS(w:WorldM)(t:Tape):Nat->WorldM×Tape
 | 0=>(w,t)
 | k+1=>((mkS w t k).1.step (mkS w t k).2,(mkS w t k).1.stepT (mkS w t k).2)
def mkB(w:WorldM)(t:Tape)(k:Nat):Bool:=Le (((mkS w t k).2.l.length:Int)<=(mkS w t k).2.at')
def mkN(w:WorldM)(t:Tape):Nat:=((Lv (2+t.l.length)).find? (mkB w t)).getD 0
def Ze2(w:WorldM)(t:Tape):WorldM:=(mkS w t (mkN w t)).1
def ZeS(w:WorldM)(t:Tape):∀ k:Nat,(mkS w t k).2.l=t.l/\t.at'+k<=(mkS w t k).2.at'/\(mkS w t k).2.at'<=t.at'+20*k
 | 0=>by simp[mkS]
 | k+1=>by
  have ih:=ZeS w t k;have:=Zlr (mkS w t k).1 (mkS w t k).2;refine⟨this.1.trans ih.1, ?_, ?_⟩
  .simp only[mkS];omega
  .simp only[mkS];omega
def ZeL{w:WorldM}{n:Nat}(h:MOk w n)(t:Tape):∀ k,n+k<=1000000->MOk (mkS w t k).1 (n+k)
 | 0,_=>h
 | k+1,hk=>(ZeL h t k oq).step oq _
def Zie(w:WorldM)(t:Tape)(ht:0<=t.at'):mkB w t (mkN w t)=Lb/\(∀ j,j<mkN w t->mkB w t j=Lc)/\mkN w t<=t.l.length+1:=by
 cases hb:(Lv (2+t.l.length)).find? (mkB w t)with
 | none =>
  exfalso;have:=Lx.1 hb t.l.length (Lq.2 oq);have u:=ZeS w t t.l.length;simp only[mkB,decide_eq_true_eq,u.1]at this;omega
 | some k =>
  obtain⟨h1,h2,h3⟩:=Ls.1 hb;have h2:=Lq.1 h2;have e:mkN w t=k:=by rw[mkN,hb];rfl
  rw[e];exact⟨h1,λj hj=>by simpa using h3 j hj,by omega⟩
def mkLA(w:WorldM)(t:Tape):Tg:=⟨tm 22 [(2,.pt 8002 0 0),(3,.pt 32012 0 0),(4,.pt 40004 0 0)],[(40004,.box 30 w.cells),(32012,t.b),(8002,.box 30 [int 0,int 0,.d (.sl 0 []),.d (.sl 0 []),int 0,int 0,.d (.sl 0 []),.d (.sl 0 [])])],60⟩
def Zlv(w:WorldM)(t:Tape)(n:Nat)(hm:MOk w n)(hn:n<=1000000)(ht:TOk t)(ha:t.at'<=900000)(hd:t.at'<t.l.length):CP (rndF f15 0) (mkLA w t).st .nrm (mkLA (w.step t) (w.stepT t)).st:=by
 exact sF [] [] (Fbq 16 [32012] (@Z76 t aa) (Ftb 17 (!decide ((t.l.length:Int)<=t.at')) (Fbr 20 [32012] (@Z6P w t n aa aa aa aa) Fz)))
def Zo9(w:WorldM)(t:Tape)(ht:TOk t)(hd:¬ t.at'<t.l.length):CP (rndF f15 0) (mkLA w t).st (.ext 0) (Tg.st ⟨tm 22 [(2,.pt 8002 0 0),(4,.pt 40004 0 0)],[(40004,.box 30 w.cells),(8002,.box 30 [int 0,int 0,.d (.sl 0 []),.d (.sl 0 []),int 0,int 0,.d (.sl 0 []),.d (.sl 0 [])])],60⟩):=by
 exact sF [] [] (Fbq 16 [32012] (@Z76 t aa) (Ffb 17 (!decide ((t.l.length:Int)<=t.at')) Fz))
def Zmp(w:WorldM)(t:Tape)(hm:MOk w 0)(hl:t.l.length<=300)(h0:0<=t.at')(h1:t.at'<=1000):CP (blkF f15 0) (Tg.st ⟨tm 22 [(2,.pt 8002 0 0),(3,.pt 32012 0 0),(4,.pt 40004 0 0)],[(40004,.box 30 w.cells),(32012,t.b),(8002,.box 30 [int 0,int 0,.d (.sl 0 []),.d (.sl 0 []),int 0,int 0,.d (.sl 0 []),.d (.sl 0 [])])],60⟩) .nrm (Tg.st ⟨tm 22 [(2,.pt 8002 0 0),(4,.pt 40004 0 0)],[(40004,.box 30 (Ze2 w t).cells),(8002,.box 30 [int 0,int 0,.d (.sl 0 []),.d (.sl 0 []),int 0,int 0,.d (.sl 0 []),.d (.sl 0 [])])],60⟩):=by
 have hk:=Zie w t h0;have tok:∀ k,k<=mkN w t->TOk (mkS w t k).2/\(mkS w t k).2.at'<=900000:=λk hk'=>by
  have u:=ZeS w t k;refine⟨?_,by omega⟩;unfold TOk;rw[u.1];omega
 refine Z08 (S:=λk=>(mkLA (mkS w t k).1 (mkS w t k).2).st) (mkN w t) kr (λk hk'=>?_) ?_
 .have hs:=hk.2.1 k hk';simp only[mkB,decide_eq_false_iff_not]at hs;have m:=ZeL hm t k oq;exact Zlv _ _ (0+k) m oq (tok k oq).1 (tok k oq).2 oq
 .have hs:=hk.1;simp only[mkB,decide_eq_true_eq]at hs;exact Zo9 _ _ (tok _ (Lj _)).1 oq
def mkLB(w:WorldM)(t:Tape):Tg:=⟨tm 22 [(2,.pt 8002 0 0),(3,.pt 24012 0 0),(4,.pt 32004 0 0)],[(32004,.box 30 w.cells),(24012,t.b),(8002,.box 30 [int 0,int 0,.d (.sl 0 []),.d (.sl 0 []),int 0,int 0,.d (.sl 0 []),.d (.sl 0 [])])],60⟩
def ZjB(w:WorldM)(t:Tape)(n:Nat)(hm:MOk w n)(hn:n<=1000000)(ht:TOk t)(ha:t.at'<=900000)(hd:t.at'<t.l.length):CP (rndF f15 0) (mkLB w t).st .nrm (mkLB (w.step t) (w.stepT t)).st:=by
 exact sF [] [] (Fbq 16 [24012] (@Z76 t aa) (Ftb 17 (!decide ((t.l.length:Int)<=t.at')) (Fbr 20 [24012] (@Z6P w t n aa aa aa aa) Fz)))
def Zob(w:WorldM)(t:Tape)(ht:TOk t)(hd:¬ t.at'<t.l.length):CP (rndF f15 0) (mkLB w t).st (.ext 0) (Tg.st ⟨tm 22 [(2,.pt 8002 0 0),(4,.pt 32004 0 0)],[(32004,.box 30 w.cells),(8002,.box 30 [int 0,int 0,.d (.sl 0 []),.d (.sl 0 []),int 0,int 0,.d (.sl 0 []),.d (.sl 0 [])])],60⟩):=by
 exact sF [] [] (Fbq 16 [24012] (@Z76 t aa) (Ffb 17 (!decide ((t.l.length:Int)<=t.at')) Fz))
def Znk(w:WorldM)(t:Tape)(hm:MOk w 0)(hl:t.l.length<=300)(h0:0<=t.at')(h1:t.at'<=1000):CP (blkF f15 0) (Tg.st ⟨tm 22 [(2,.pt 8002 0 0),(3,.pt 24012 0 0),(4,.pt 32004 0 0)],[(32004,.box 30 w.cells),(24012,t.b),(8002,.box 30 [int 0,int 0,.d (.sl 0 []),.d (.sl 0 []),int 0,int 0,.d (.sl 0 []),.d (.sl 0 [])])],60⟩) .nrm (Tg.st ⟨tm 22 [(2,.pt 8002 0 0),(4,.pt 32004 0 0)],[(32004,.box 30 (Ze2 w t).cells),(8002,.box 30 [int 0,int 0,.d (.sl 0 []),.d (.sl 0 []),int 0,int 0,.d (.sl 0 []),.d (.sl 0 [])])],60⟩):=by
 have hk:=Zie w t h0;have tok:∀ k,k<=mkN w t->TOk (mkS w t k).2/\(mkS w t k).2.at'<=900000:=λk hk'=>by
  have u:=ZeS w t k;refine⟨?_,by omega⟩;unfold TOk;rw[u.1];omega
 refine Z08 (S:=λk=>(mkLB (mkS w t k).1 (mkS w t k).2).st) (mkN w t) kr (λk hk'=>?_) ?_
 .have hs:=hk.2.1 k hk';simp only[mkB,decide_eq_false_iff_not]at hs;have m:=ZeL hm t k oq;exact ZjB _ _ (0+k) m oq (tok k oq).1 (tok k oq).2 oq
 .have hs:=hk.1;simp only[mkB,decide_eq_true_eq]at hs;exact Zob _ _ (tok _ (Lj _)).1 oq
def Z4x(l:List Int):Tape:=⟨l.take 300,0⟩
def Z0K(l:List Int):WorldM:=Ze2 (Z4x l).empty (((Z4x l).step 4).step 5)
def Zf9(t:Tape):MOk t.empty 0:=by
 have hv:=Z4z t;have hb:=validB_iff.1 hv;refine⟨?_,hv, ?_, ?_, ?_, ?_, ?_, ?_,by simp[Tape.empty],by simp[Tape.empty]⟩
 .intro x hx;simp only[Tape.empty,Z3Y,LI]at hx;omega
 .simp only[Tape.empty,Z3Y,Lo];omega
 .have:=area hv;simp only[Tape.empty,Z3Y,Lo];omega
 .intro j hj;simp only[Tape.empty,Z3Y,Lo]at hj ⊢;have:(Ld t.C.pg.toNat (⟨0,0,0,0⟩:Page)).getD j M=⟨0,0,0,0⟩:=by simp[Ll,hj]
  rw[this];simp
 .intro j hj;simp only[Tape.empty,Z3Y,Lo]at hj ⊢;have:(Ld t.C.pg.toNat (⟨0,0,0,0⟩:Page)).getD j M=⟨0,0,0,0⟩:=by simp[Ll,hj]
  rw[this];simp
 .intro x hx;simp[Tape.empty]at hx
 .intro x hx;simp[Tape.empty]at hx
def Zaa(l:List Int):(((Z4x l).step 4).step 5).l=l.take 300/\(((Z4x l).step 4).step 5).at'=2:=by simp[Z4x,Tape.step]
def Z7l(l:List Int):MOk (Z0K l) 1000:=by
 have e:=Zaa l;have hl:(((Z4x l).step 4).step 5).l.length<=300:=by rw[e.1];simp;omega
 have hk:=Zie (Z4x l).empty (((Z4x l).step 4).step 5) oq;have m:=ZeL (Zf9 (Z4x l)) (((Z4x l).step 4).step 5) (mkN (Z4x l).empty (((Z4x l).step 4).step 5)) oq;have h2:∀ (w:WorldM) (a b:Nat),MOk w a->a<=b->MOk w b:=λw a b h hab =>
  ⟨h.W,h.hv,h.pl,h.L,λj hj=>by have:=h.N j hj;omega,h.us,h.G,h.E,by have:=h.sl;omega,by have:=h.wl;omega⟩
 exact h2 _ _ _ m oq
def Zaw(l:List Int)(hl:l.length<=140737488355328):GP 15 [Z0m l] Lc (Z0K l).av []:=by
 have e:=Zaa l;have he:=Zf9 (Z4x l);have h1:(((Z4x l).step 4).step 5).l.length<=300:=by rw[e.1];simp;omega
 have h2:=e.2;by_cases h:300<l.length
 .have ht:TOk ⟨Lf (Lh 300) l,0⟩:=by simp[TOk];omega
  have e9:Z4x l=⟨Lf (Lh 300) l,0⟩:=rfl;unfold Z0K;rw[e9]at he h1 h2 ⊢;exact gF [] func15 [] (Fh 9 [.els (La idv (Lf (Lh 300) l))] (Fl 6 idv l (Ftb 7 (Le (300<(l.length:Int))) (Fa (by(simp only[Li];omega):(0:Int)<=(300:Int)/\300<=(↑(La idv l).length:Int)) (Fa (ms:Lf (Lh 300) (La idv l)=La idv (Lf (Lh 300) l)) (Fbr 14 [32012] (@ZcQ (Tape.mk (Lf (Lh 300) l) 0) aa (by(simp only[bs];omega))) (Fu (@Zmp ((Tape.mk (Lf (Lh 300) l) 0).empty) (((Tape.mk (Lf (Lh 300) l) 0).step 4).step 5) aa aa oq oq) Fz)))))))
 .have ht:TOk ⟨l,0⟩:=by simp[TOk];omega
  have e9:Z4x l=⟨l,0⟩:=by rw[Z4x,List.take_of_length_le oq]
  unfold Z0K;rw[e9]at he h1 h2 ⊢;exact gF [] func15 [] (Fl 6 idv l (Ffb 7 (Le (300<(l.length:Int))) (Fbr 14 [24012] (@ZcQ (Tape.mk l 0) aa (by(simp only[bs];omega))) (Fu (@Znk ((Tape.mk l 0).empty) (((Tape.mk l 0).step 4).step 5) aa aa oq oq) Fz))))
def RootOn(h:Heap)(r:Int):Prop:=(ofA h.C r).2.2=0->(h.P.getD (ofA h.C r).1.toNat M).K=1\/(h.P.getD (ofA h.C r).1.toNat M).K=2
def RootOn.mono{h h':Heap}{r:Int}(hr:RootOn h r)(hc:h'.C=h.C)(hk:∀ j:Nat,(h.P.getD j M).K≠0->(h'.P.getD j M).K=(h.P.getD j M).K):RootOn h' r:=by
 intro e;rw[hc]at e ⊢;have q:=hr e;rw[hk _ oq];exact q
def SpOk(l:List Page):Prop:=∀ p∈l,p.S=0\/p.S=1
def SpOk.at{l:List Page}(h:SpOk l){i:Nat}(hi:i<l.length):(l.getD i M).S=0\/(l.getD i M).S=1:=by
 rw[Ll,Ly hi];exact h _ (List.getElem_mem hi)
def SpOk.set{l:List Page}(h:SpOk l)(i:Nat){p:Page}(hp:p.S=0\/p.S=1):SpOk (l.set i p):=λq hq=>by
 rcases LH hq with q1 | q1
 .exact h q q1
 .rw[q1];exact hp
def Work.took(w:Work):Work:=⟨⟨w.heap.C,w.heap.W,Z30 w,w.heap.S,w.heap.B⟩,w.old,w.T++[Z0L w],w.Q,w.D,w.rep⟩
def Zli(a:List Int)(i:Nat):Tg:=⟨tm 26 [(0,Z0m a),(1,Z0m a),(4,bool Lc),(5,int i)],[],60⟩
def ZiX(a:List Int)(i:Nat)(ha:a.length<=1048576)(hi:i<a.length):CP (rndF f68 0) (Zli a i).st .nrm (Zli a (i+1)).st:=by
 exact sF [] [] (FN 13 14 19 idv a i (Fek 23 idv a (↑i) i (Ffs 25 (a.getD i M != a.getD i M) (Fx 16 i Fz))))
def Zmw(a:List Int):CP (rndF f68 0) (Zli a a.length).st (.ext 0) (Tg.st ⟨tm 26 [],[],60⟩):=by
 exact sF [] [] (FO 13 14 idv a Fz)
def ZjX(a:List Int)(ha:a.length<=1048576)  := Z08 (S:=λi=>(Zli a i).st) a.length (by kernel_rfl) (λi hi=>ZiX a i ha hi) (Zmw a)
def ZaT(a:List Int)(ha:a.length<=1048576):GP 68 [Z0m a,Z0m a] Lb (bool Lb) []:=by
 exact gF [] func68 [] (Fl 7 idv a (Fl 9 idv a (Ffs 10 ((a.length:Int) != (a.length:Int)) (Fu (@ZjX a aa) Fz))))
def Zbh{ρ:Rho}{w:World}{Im:Nat->Prop}{v:Value}(s:Nat)(h:Rel ρ w Im (.d (.sl 0 [])) v):Rel ρ w Im (.d (.sl s [])) v:=by
 cases h with
 | d h =>
  cases h with
  | slNil=>exact .d (.slNil _ _ _)
  | sl _ _ p n c f hn=>cases hn;exact .d (.slNil _ _ _)
def hA8:Heap:=⟨⟨32,8⟩,Ld 256 0,Ld 8 ⟨0,0,0,0⟩,0,-1⟩
def hB8:Heap:=(⟨⟨32,8⟩,(Ld 256 0).set 0 25,[⟨1,0,2,0⟩,⟨0,0,0,0⟩,⟨0,0,0,0⟩,⟨0,0,0,0⟩,⟨0,0,0,0⟩,⟨0,0,0,0⟩,⟨0,0,0,0⟩,⟨0,0,0,0⟩],0,0⟩:Heap)
def hC8:Heap:=(⟨⟨32,8⟩,((Ld 256 0).set 0 25).set 1 4096,[⟨1,0,2,0⟩,⟨0,0,0,0⟩,⟨0,0,0,0⟩,⟨0,0,0,0⟩,⟨0,0,0,0⟩,⟨0,0,0,0⟩,⟨0,0,0,0⟩,⟨0,0,0,0⟩],0,0⟩:Heap)
def Zcq:Z0K []=⟨hA8,[],[]⟩:=by kernel_rfl
def ZjS:(⟨hA8,[],[]⟩:WorldM).put ⟨2,1,0⟩=⟨hB8,[4096],[]⟩:=by kernel_rfl
def ZoV:Z0p hB8 4096 0 4096=(hC8,0):=by kernel_rfl
def ZfC:Z09 hC8 [4096]=([4096],0):=by kernel_rfl
def Zmt:[4096].map (Z0X hC8 [4096])=[⟨⟨2,1,0⟩,[1]⟩]:=by kernel_rfl
def ZlX:[4096].map (Z0U [4096])=[0]:=by kernel_rfl
def Zlf:WOk hB8.W:=by unfold WOk;decide+kernel
def Zjz:WOk hC8.W:=by unfold WOk;decide+kernel
def Zlj:GP 15 [.d (.sl 0 [])] Lc (⟨(⟨⟨32,8⟩,Ld 256 0,Ld 8 ⟨0,0,0,0⟩,0,-1⟩:Heap),[],[]⟩:WorldM).av []:=by
 have k:=Zaw [] pq;rw[Zcq]at k;intro w Im vs hIm hsz h;refine k w Im vs hIm hsz λi x v hx hv=>?_;rcases i with _ | i
 .cases hx;exact Zbh 1 (h 0 _ v rfl hv)
 .simp at hx
def Znu:GP 58 [.ag [int 32,int 8,.d (.sl 1 ((Ld 256 0).map wdv)),.d (.sl 4 ((Ld 8 (⟨0,0,0,0⟩:Page)).map Page.dv)),int 0,int (-1),.d (.sl 0 []),.d (.sl 0 [])],.ag [int 2,int 1,.d (.sc (.int .u32 0))]] Lc (⟨(⟨⟨32,8⟩,(Ld 256 0).set 0 25,[⟨1,0,2,0⟩,⟨0,0,0,0⟩,⟨0,0,0,0⟩,⟨0,0,0,0⟩,⟨0,0,0,0⟩,⟨0,0,0,0⟩,⟨0,0,0,0⟩,⟨0,0,0,0⟩],0,0⟩:Heap),[4096],[]⟩:WorldM).av []:=by
 have hm:=Z7l [];rw[Zcq]at hm;have k:=Z62 ⟨hA8,[],[]⟩ ⟨2,1,0⟩ (hm.wm dd) dd;rw[ZjS]at k;intro w Im vs hIm hsz h;refine k w Im vs hIm hsz λi x v hx hv=>?_;rcases i with _ | _ | i
 .cases hx;obtain⟨cs,rfl,h2,h3,h4⟩:=Z31 (h 0 _ v rfl hv);refine .ag _ _ h2 h3 (λi a u ha hu=>?_);rcases i with _ | _ | _ | _ | _ | _ | _ | _ | i
  .cases ha;exact h4 0 _ u rfl hu
  .cases ha;exact h4 1 _ u rfl hu
  .cases ha;exact h4 2 _ u rfl hu
  .cases ha;exact h4 3 _ u rfl hu
  .cases ha;exact h4 4 _ u rfl hu
  .cases ha;exact h4 5 _ u rfl hu
  .cases ha;exact Zbh 1 (h4 6 _ u rfl hu)
  .cases ha;exact Zbh 1 (h4 7 _ u rfl hu)
  .cases (show(none:Option AV)=Lg a from ha)
 .cases hx;exact h 1 _ v rfl hv
 .simp at hx
def Zpe:GP 59 [(⟨⟨32,8⟩,(Ld 256 0).set 0 25,[⟨1,0,2,0⟩,⟨0,0,0,0⟩,⟨0,0,0,0⟩,⟨0,0,0,0⟩,⟨0,0,0,0⟩,⟨0,0,0,0⟩,⟨0,0,0,0⟩,⟨0,0,0,0⟩],0,0⟩:Heap).av,u64 4096,int 0,u64 4096] Lc (.tu [(⟨⟨32,8⟩,((Ld 256 0).set 0 25).set 1 4096,[⟨1,0,2,0⟩,⟨0,0,0,0⟩,⟨0,0,0,0⟩,⟨0,0,0,0⟩,⟨0,0,0,0⟩,⟨0,0,0,0⟩,⟨0,0,0,0⟩,⟨0,0,0,0⟩],0,0⟩:Heap).av,int 0]) []:=by
 have k:=Z4I hB8 4096 0 4096 Zlf dd;rw[ZoV]at k;exact k
def ofC8:GP 20 [(⟨⟨32,8⟩,((Ld 256 0).set 0 25).set 1 4096,[⟨1,0,2,0⟩,⟨0,0,0,0⟩,⟨0,0,0,0⟩,⟨0,0,0,0⟩,⟨0,0,0,0⟩,⟨0,0,0,0⟩,⟨0,0,0,0⟩,⟨0,0,0,0⟩],0,0⟩:Heap).av,.d (.sl 1 ([4096].map wdv))] Lc (.tu [.ag [.d (.sl 1 ([0].map idv)),.d (.sl 4 ([(⟨⟨2,1,0⟩,[1]⟩:NodeG)].map NodeG.dv))],int 0]) []:=by
 have k:=ZcC hC8 [4096] Zjz dd (by intro x hx;rw[LL.1 hx];decide) (by rw[ZfC]);rw[ZfC]at k;simp only at k;rw[Zmt,ZlX]at k;exact k
def Zcf:GP 19 [] Lb (bool Lb) []:=by
 exact gF [] func19 [] (Fh 20 [.el (wdv ((WorldM.mk (Heap.mk (Conf.mk 32 8) ((Ld 256 0).set 0 25) [Page.mk 1 0 2 0,Page.mk 0 0 0 0,Page.mk 0 0 0 0,Page.mk 0 0 0 0,Page.mk 0 0 0 0,Page.mk 0 0 0 0,Page.mk 0 0 0 0,Page.mk 0 0 0 0] 0 0) [4096] []).G.getD 0 M))] (Fh 24 [.el (wdv ((WorldM.mk (Heap.mk (Conf.mk 32 8) ((Ld 256 0).set 0 25) [Page.mk 1 0 2 0,Page.mk 0 0 0 0,Page.mk 0 0 0 0,Page.mk 0 0 0 0,Page.mk 0 0 0 0,Page.mk 0 0 0 0,Page.mk 0 0 0 0,Page.mk 0 0 0 0] 0 0) [4096] []).G.getD 0 M))] (Fh 4 [.gh 3 1,.int 0,.gh 54 4,.int 1] (Fh 47 [.el (NodeG.mk (Header.mk 2 1 0) [1]).dv] (Fh 56 [.el (NodeG.mk (Header.mk 2 1 0) [1]).dv] (Fh 59 [.el (wdv ((NodeG.mk (Header.mk 2 1 0) [1]).fs.getD 0 M))] (Fh 72 [.el (idv 0)] (Fc 6 (@Zlj) (Fc 10 (@Znu) (Fa (by simp[*]:(0:Int)<=0/\(La wdv (WorldM.mk (Heap.mk (Conf.mk 32 8) ((Ld 256 0).set 0 25) [Page.mk 1 0 2 0,Page.mk 0 0 0 0,Page.mk 0 0 0 0,Page.mk 0 0 0 0,Page.mk 0 0 0 0,Page.mk 0 0 0 0,Page.mk 0 0 0 0,Page.mk 0 0 0 0] 0 0) [4096] []).G)[Lh 0]? = Lg (wdv ((WorldM.mk (Heap.mk (Conf.mk 32 8) ((Ld 256 0).set 0 25) [Page.mk 1 0 2 0,Page.mk 0 0 0 0,Page.mk 0 0 0 0,Page.mk 0 0 0 0,Page.mk 0 0 0 0,Page.mk 0 0 0 0,Page.mk 0 0 0 0,Page.mk 0 0 0 0] 0 0) [4096] []).G.getD 0 M))) (Fa (by simp[*]:(0:Int)<=0/\(La wdv (WorldM.mk (Heap.mk (Conf.mk 32 8) ((Ld 256 0).set 0 25) [Page.mk 1 0 2 0,Page.mk 0 0 0 0,Page.mk 0 0 0 0,Page.mk 0 0 0 0,Page.mk 0 0 0 0,Page.mk 0 0 0 0,Page.mk 0 0 0 0,Page.mk 0 0 0 0] 0 0) [4096] []).G)[Lh 0]? = Lg (wdv ((WorldM.mk (Heap.mk (Conf.mk 32 8) ((Ld 256 0).set 0 25) [Page.mk 1 0 2 0,Page.mk 0 0 0 0,Page.mk 0 0 0 0,Page.mk 0 0 0 0,Page.mk 0 0 0 0,Page.mk 0 0 0 0,Page.mk 0 0 0 0,Page.mk 0 0 0 0] 0 0) [4096] []).G.getD 0 M))) (Fc 26 (@Zpe) (Fc 33 (@ofC8) (Fa (by intro hg;(try simp only[bs]at hg);simp[*]:((0:Int)==0&&(↑(La NodeG.dv [NodeG.mk (Header.mk 2 1 0) [1]]).length:Int)==1)=Lb->(0:Int)<=0/\(La NodeG.dv [NodeG.mk (Header.mk 2 1 0) [1]])[Lh 0]? = Lg (NodeG.mk (Header.mk 2 1 0) [1]).dv) (Fa (by intro hg;(try simp only[bs]at hg);simp[*]:((0:Int)==0&&(↑(La NodeG.dv [NodeG.mk (Header.mk 2 1 0) [1]]).length:Int)==1&&(↑(La wdv (NodeG.mk (Header.mk 2 1 0) [1]).fs).length:Int)==1)=Lb->(0:Int)<=0/\(La NodeG.dv [NodeG.mk (Header.mk 2 1 0) [1]])[Lh 0]? = Lg (NodeG.mk (Header.mk 2 1 0) [1]).dv) (Fa (by intro hg;(try simp only[bs]at hg);simp[*]:((0:Int)==0&&(↑(La NodeG.dv [NodeG.mk (Header.mk 2 1 0) [1]]).length:Int)==1&&(↑(La wdv (NodeG.mk (Header.mk 2 1 0) [1]).fs).length:Int)==1)=Lb->(0:Int)<=0/\(La wdv (NodeG.mk (Header.mk 2 1 0) [1]).fs)[Lh 0]? = Lg (wdv ((NodeG.mk (Header.mk 2 1 0) [1]).fs.getD 0 M))) (Fa (by intro hg;(try simp only[bs]at hg);simp[*]:((0:Int)==0&&(↑(La NodeG.dv [NodeG.mk (Header.mk 2 1 0) [1]]).length:Int)==1&&(↑(La wdv (NodeG.mk (Header.mk 2 1 0) [1]).fs).length:Int)==1&&(NodeG.mk (Header.mk 2 1 0) [1]).fs.getD 0 M==1&&(↑(La idv [0]).length:Int)==1)=Lb->(0:Int)<=0/\(La idv [0])[Lh 0]? = Lg (idv 0)) Fz)))))))))))))))))
end Go.Proofs.YtgedmeaemofdkaaGreat
