/-
 The statement BoundMeasures: part 13.
 Conditions: none.
-/
import Derived.Ground.NamesProg
import Derived.Lib.SortBridge
import Derived.Shelf.Lay
import Derived.Shelf.Slices.In.SortNone
import Derived.Sort.EveryDepth
import Derived.Sort.Grow
import Derived.Sort.OwnSortedInts
import Derived.Test.YtgedmeaemofdkaaGreatChecked
import Derived.WalkKit
import Derived.Test.YtgedmeaemofdkaaGreatS12
set_option maxRecDepth 100000
set_option maxHeartbeats 2000000
set_option linter.all false
open Inhabited renaming default->M
open Bool renaming true->La,false->Lc,and_eq_true->Lv,not_eq_true'->LA,eq_iff_iff->LO,or_false->LQ
open Decidable renaming decide->Lb
open Option renaming some->Ld,none->Lh,getD_some->LL,isSome_iff_exists->L9,map_some->Xa
open List renaming replicate->Le,map->Lf,drop->Li,take->Lj,mem_range->Lk,range->Ll,getD_eq_getElem?_getD->Lm,length_map->Lp,find?_range_eq_some->Lq,find?_eq_none->Lr,length_replicate->Ls,length_take->Lt,map_append->Lu,getElem?_eq_getElem->Lw,map_drop->Lx,map_take->Ly,mem_cons->Lz,getElem?_drop->LC,getElem?_take->LD,length_drop->LF,map_set->LG,mem_replicate->LH,not_mem_nil->LI,find?_cons->LW,getElem?_append->LY,getElem?_append_left->LZ,getElem?_append_right->L0,map_replicate->L1,mem_map->L2,mem_of_find?_eq_some->L3,mem_of_getElem?->L4
open Go.Value renaming int->Lg
open Nat renaming le_refl->Ln,add_mul->L5,mul_le_mul_right->L6,one_mul->L7,zero_add->L8
open Classical renaming not_not->Lo
open Int renaming mul_comm->LB,add_mul->LR,mul_le_mul_of_nonneg_right->LS,one_mul->LU,tdiv_eq_ediv_of_nonneg->LV
open Array renaming getElem?_append->LM,replicate->LN
open Go.Proofs.Tryz
namespace Go.Proofs.YtgedmeaemofdkaaGreat
open Go.Shelf
def Z1B:Go.Shelf.Ren where
 f x:=match x with
  | 189=>199
  | 125=>225
  | 257=>224
  | 128=>245
  | 129=>246
  | 294=>236
  | 295=>237
  | 296=>238
  | 297=>239
  | 298=>240
  | 299=>241
  | 216=>242
  | 300=>243
  | 301=>244
  | 328=>251
  | 329=>252
  | 330=>253
  | 331=>254
  | 332=>255
  | 215=>256
  | 343=>257
  | n=>n
 t x:=match x with
  | 28=>22
  | 3=>3
  | 46=>122
  | 0=>0
  | 51=>50
  | 53=>35
  | 4=>4
  | 183=>280
  | 182=>279
  | 131=>111
  | 5=>5
  | 9=>9
  | 218=>289
  | 222=>292
  | 228=>294
  | 229=>295
  | n=>n
 g n:=n
def Zmn:Go.Proofs.Lays.n189 prog Z1B where
 mixed:=by kernel_rfl
 f125:=Eq.trans func225 (congrArg Ld (by kernel_rfl:f225=Go.Proofs.Body.n125 Z1B))
 f128:=Eq.trans func245 (congrArg Ld (by kernel_rfl:f245=Go.Proofs.Body.n128 Z1B))
 f129:=Eq.trans func246 (congrArg Ld (by kernel_rfl:f246=Go.Proofs.Body.n129 Z1B))
 f189:=Eq.trans func199 (congrArg Ld (by kernel_rfl:f199=Go.Proofs.Body.n189 Z1B))
 f215:=Eq.trans func256 (congrArg Ld (by kernel_rfl:f256=Go.Proofs.Body.n215 Z1B))
 f216:=Eq.trans func242 (congrArg Ld (by kernel_rfl:f242=Go.Proofs.Body.n216 Z1B))
 f257:=Eq.trans func224 (congrArg Ld (by kernel_rfl:f224=Go.Proofs.Body.n257 Z1B))
 f294:=Eq.trans func236 (congrArg Ld (by kernel_rfl:f236=Go.Proofs.Body.n294 Z1B))
 f295:=Eq.trans func237 (congrArg Ld (by kernel_rfl:f237=Go.Proofs.Body.n295 Z1B))
 f296:=Eq.trans func238 (congrArg Ld (by kernel_rfl:f238=Go.Proofs.Body.n296 Z1B))
 f297:=Eq.trans func239 (congrArg Ld (by kernel_rfl:f239=Go.Proofs.Body.n297 Z1B))
 f298:=Eq.trans func240 (congrArg Ld (by kernel_rfl:f240=Go.Proofs.Body.n298 Z1B))
 f299:=Eq.trans func241 (congrArg Ld (by kernel_rfl:f241=Go.Proofs.Body.n299 Z1B))
 f300:=Eq.trans func243 (congrArg Ld (by kernel_rfl:f243=Go.Proofs.Body.n300 Z1B))
 f301:=Eq.trans func244 (congrArg Ld (by kernel_rfl:f244=Go.Proofs.Body.n301 Z1B))
 f328:=Eq.trans func251 (congrArg Ld (by kernel_rfl:f251=Go.Proofs.Body.n328 Z1B))
 f329:=Eq.trans func252 (congrArg Ld (by kernel_rfl:f252=Go.Proofs.Body.n329 Z1B))
 f330:=Eq.trans func253 (congrArg Ld (by kernel_rfl:f253=Go.Proofs.Body.n330 Z1B))
 f331:=Eq.trans func254 (congrArg Ld (by kernel_rfl:f254=Go.Proofs.Body.n331 Z1B))
 f332:=Eq.trans func255 (congrArg Ld (by kernel_rfl:f255=Go.Proofs.Body.n332 Z1B))
 f343:=Eq.trans func257 (congrArg Ld (by kernel_rfl:Tryz.f257=Go.Proofs.Body.n343 Z1B))
 t0:=Tryz.underlying0
 a0:=Tryz.isAgg0
 z0:=Tryz.sizeOf0
 v0:=Tryz.zeroValue0
 t3:=Tryz.underlying3
 a3:=Tryz.isAgg3
 z3:=Tryz.sizeOf3
 v3:=Tryz.zeroValue3
 t4:=Tryz.underlying4
 a4:=Tryz.isAgg4
 z4:=Tryz.sizeOf4
 v4:=Tryz.zeroValue4
 t5:=Tryz.underlying5
 a5:=Tryz.isAgg5
 z5:=Tryz.sizeOf5
 v5:=Tryz.zeroValue5
 t9:=Tryz.underlying9
 a9:=Tryz.isAgg9
 z9:=Tryz.sizeOf9
 v9:=Tryz.zeroValue9
 t28:=Tryz.underlying22
 a28:=Tryz.isAgg22
 z28:=Tryz.sizeOf22
 v28:=Tryz.zeroValue22
 t46:=Tryz.underlying122
 a46:=Tryz.isAgg122
 z46:=Tryz.sizeOf122
 v46:=Tryz.zeroValue122
 t51:=Tryz.underlying50
 a51:=Tryz.isAgg50
 z51:=Tryz.sizeOf50
 v51:=Tryz.zeroValue50
 t53:=Tryz.underlying35
 a53:=Tryz.isAgg35
 z53:=Tryz.sizeOf35
 v53:=Tryz.zeroValue35
 t131:=Tryz.underlying111
 a131:=Tryz.isAgg111
 z131:=Tryz.sizeOf111
 v131:=Tryz.zeroValue111
 t182:=Tryz.underlying279
 a182:=Tryz.isAgg279
 z182:=Tryz.sizeOf279
 v182:=Tryz.zeroValue279
 t183:=Tryz.underlying280
 a183:=Tryz.isAgg280
 z183:=Tryz.sizeOf280
 v183:=Tryz.zeroValue280
 t218:=Tryz.underlying289
 a218:=Tryz.isAgg289
 z218:=Tryz.sizeOf289
 v218:=Tryz.zeroValue289
 t222:=Tryz.underlying292
 a222:=Tryz.isAgg292
 z222:=Tryz.sizeOf292
 v222:=Tryz.zeroValue292
 t228:=Tryz.underlying294
 a228:=Tryz.isAgg294
 z228:=Tryz.sizeOf294
 v228:=Tryz.zeroValue294
 t229:=Tryz.underlying295
 a229:=Tryz.isAgg295
 z229:=Tryz.sizeOf295
 v229:=Tryz.zeroValue295
end Go.Proofs.YtgedmeaemofdkaaGreat
namespace Go.Proofs.YtgedmeaemofdkaaGreat
open Go.RowKit Go.Shelf Go.Sort
set_option maxHeartbeats 2000000
set_option maxRecDepth 100000
def srt(a b c d e:Int):List Int:=[a,b,c,d,e].mergeSort λx y=>Lb (x<=y)
def Zc1(a b c d e:Int):(srt a b c d e).length=5:=by simp[srt]
def ZmK(W:World)(a b c d e:Int)(t:Nat):Holds (Lg .i64) (W.alloc (.cells #[.int .i64 a,.int .i64 b,.int .i64 c,.int .i64 d,.int .i64 e] t)) W.heap.size 0 [a,b,c,d,e].toArray:=by
 intro j hj;have hn:(W.alloc (.cells #[.int .i64 a,.int .i64 b,.int .i64 c,.int .i64 d,.int .i64 e] t)).heap[W.heap.size]? = Ld (.cells #[.int .i64 a,.int .i64 b,.int .i64 c,.int .i64 d,.int .i64 e] t):=by
  show(W.heap.push _)[W.heap.size]? = Ld _;simp
 have h5:j=0\/j=1\/j=2\/j=3\/j=4:=by simp at hj;omega
 rcases h5 with rfl | rfl | rfl | rfl | rfl<;>exact⟨by simp only[World.cell?,hn,L8];rfl,by simp only[World.frozen?,hn];rfl⟩
def Zp0(W:World)(a b c d e:Int)(t n:Nat)(os:Array Obj)(W':World)
  (h:W'=grow (putRow (Lg .i64) (Sort.ahead (W.alloc (.cells #[.int .i64 a,.int .i64 b,.int .i64 c,.int .i64 d,.int .i64 e] t)) n) W.heap.size 0 (srt a b c d e).toArray) os) :
  (∀ j,j<5->W'.cell? ⟨W.heap.size,j,Lh⟩=Ld (.int .i64 ((srt a b c d e).getD j 0)))/\Below W.heap.size W W':=by
 have hH:=ZmK W a b c d e t;have h1:=holds_putRow (Lg .i64) _ W.heap.size 0 _ (srt a b c d e).toArray (holds_ahead (Lg .i64) _ n W.heap.size 0 _ hH) (by simp[Zc1]);have h2:=holds_grow (Lg .i64) _ os W.heap.size 0 _ (by simp[putRow,mapBlock,Sort.ahead]) h1;rw[<- h]at h2;constructor
 .intro j hj;have:=(h2 j (by simp[Zc1];omega)).1;rw[L8]at this;rw[this];have hl:j<(srt a b c d e).length:=by rw[Zc1];omega
  simp[Lm,hl]
 .have g:=grownBy_sortedI (w:=W.alloc (.cells #[.int .i64 a,.int .i64 b,.int .i64 c,.int .i64 d,.int .i64 e] t)) (g:=W.heap.size) (n:=n) (os:=os) (srt a b c d e).toArray;rw[<- h]at g;exact((Below.refl W.heap.size W).alloc (Ln _) _).grown g (by simp) (λj hj=>by cases hj;exact Ln _)
def Zhd(a b c d e:Int)(w:World):Calls prog 152 #[.agg #[.int .i64 a,.int .i64 b,.int .i64 c,.int .i64 d,.int .i64 e]] w λen w'=>en = .returned (.bool (Lb (0<=(srt a b c d e).getD 0 0)&&Lb ((srt a b c d e).getD 4 0<=2147483647)))/\Below w.heap.size w w':=by
  go_enter func152,Tryz.ntmps152
  go_wp2_with (go_at_call 199
               have hH:=ZmK ((w.alloc (Obj.cells #[Lg .i64 a,Lg .i64 b,Lg .i64 c,Lg .i64 d,Lg .i64 e] 92)).alloc (Obj.cells #[Lg .i64 a,Lg .i64 b,Lg .i64 c,Lg .i64 d,Lg .i64 e] 246)) a b c d e 246;have hc:=calls_of_every_depth λD=>AnyS.slices_Sort_int_alone Zmn D _ 0 5 [a,b,c,d,e] _ hH (by simp) (by simp);have e1:((w.alloc (Obj.cells #[Lg .i64 a,Lg .i64 b,Lg .i64 c,Lg .i64 d,Lg .i64 e] 92)).alloc (Obj.cells #[Lg .i64 a,Lg .i64 b,Lg .i64 c,Lg .i64 d,Lg .i64 e] 246)).heap.size=w.heap.size+1+1:=by simp
               have ha:=λn os W' h=>Zp0 ((w.alloc (Obj.cells #[Lg .i64 a,Lg .i64 b,Lg .i64 c,Lg .i64 d,Lg .i64 e] 92)).alloc (Obj.cells #[Lg .i64 a,Lg .i64 b,Lg .i64 c,Lg .i64 d,Lg .i64 e] 246)) a b c d e 246 n os W' h;rw[e1]at hc ha;refine hc.mono ?_;rintro en w' ⟨rfl,n,os,hw⟩;obtain⟨hcell,hbel⟩:=ha n os w' hw;have h0:=hcell 0 (by decide);have h4:=hcell 4 (by decide);clear hcell ha hc hH hw)
  all_goals
    have hb2:Below w.heap.size w w':=(((Below.refl w.heap.size w).alloc (Ln _) _).alloc (by simp) _).trans (hbel.mono (by omega));go_ret
    refine⟨?_,hb2⟩;simp_all
    try (intro h;omega)
def Zpu(a b c d e m:Int):(Lb (0<=(srt a b c d e).getD 0 0)&&Lb ((srt a b c d e).getD 4 0<=m))=Lb (∀ x∈[a,b,c,d,e],0<=x/\x<=m):=by
 have hp:(srt a b c d e).Pairwise (λx y=>Lb (x<=y)=La):=List.pairwise_mergeSort (λx y z h k=>by simp at h k ⊢;omega) (λx y=>by simp;omega) _;have hm:∀ x,x∈srt a b c d e↔x∈[a,b,c,d,e]:=λx=>List.mem_mergeSort;have hl:=Zc1 a b c d e;generalize srt a b c d e=s at hp hm hl
 match s,hl with
 | [p,q,r,t,u],_ =>
  rw[LO];simp only[Lv,decide_eq_true_eq,List.getD_cons_zero,List.getD_cons_succ];simp only[List.pairwise_cons,Lz,LI,or_false,decide_eq_true_eq]at hp;constructor
  .intro h x hx;have:=(hm x).2 hx;simp only[Lz,LI,or_false]at this;obtain⟨h1,h2,h3,h4,h5⟩:=hp;have a1:=h1 q (by simp);have a2:=h2 r (by simp);have a3:=h3 t (by simp);have a4:=h4 u rfl;omega
  .intro h;have h1:=h p ((hm p).1 (by simp));have h2:=h u ((hm u).1 (by simp));omega
end Go.Proofs.YtgedmeaemofdkaaGreat
namespace Go.Proofs.YtgedmeaemofdkaaGreat
open Go.Sx
def Zoy(c:Conf)(hd:Header):(Z0i hd&&hd.K != 0&&Lb (0<=need c (sizeH hd)))=Z1j c hd:=by
 have hr:=Z1J c (sizeH hd);have e:Lb (0<=need c (sizeH hd))=Lb (need c (sizeH hd)≠-1):=decide_eq_decide.2 oq;have e3:(hd.K != 0)=Lb (hd.K≠0):=by rw[LO];simp
 rw[Z1j,e,e3]
def Z3v(c:Conf)(hd:Header)(hm:0<=hd.map/\hd.map<=4294967295):GP 153 [c.av,hd.av] La (bool (Z1j c hd)) []:=by
 refine gspec_ofE [((6:Nat),[Hint.call La (Sx.bool (Z0i hd)) []]),((15:Nat),[Hint.call La (int (sizeH hd)) []]),((16:Nat),[Hint.call La (int (need c (sizeH hd))) []])] [] [] dd func153 [Lc,Lc,Lc,Lc,Lc,Lc,Lc,Lc,La] (φ:=GP 120 [hd.av] La (Sx.bool (Z0i hd)) []/\((Z0i hd&&hd.K != (0:Int))=La->GP 69 [hd.av] La (int (sizeH hd)) [])/\((Z0i hd&&hd.K != (0:Int))=La->GP 97 [c.av,int (sizeH hd)] La (int (need c (sizeH hd))) [])/\(Z0i hd&&hd.K != (0:Int)&&Lb ((0:Int)<=need c (sizeH hd)))=Z1j c hd) ?_ kr kr;exact⟨(@Z2y (hd) aa),(λhg=>by(try simp only[bs]at hg);exact @Z0B (hd) (by(try simp only[bs]at hg);assumption)),(λhg=>by(try simp only[bs]at hg);exact @Z2t (c) (sizeH hd)),(by exact Zoy _ _)⟩
structure Live where
 objects:Int
 W:Int
 small:Int
 large:Int
 pinned:Int
 deriving DecidableEq,Inhabited
def Live.av(l:Live):AV:=.ag [int l.objects,int l.W,int l.small,int l.large,int l.pinned]
def Z12(l:Live):Bool:=Lb (∀ x∈[l.objects,l.W,l.small,l.large,l.pinned],0<=x/\x<=2147483647)
def liveOk_iff{l:Live}:Z12 l=La↔(0<=l.objects/\l.objects<=2147483647)/\(0<=l.W/\l.W<=2147483647)/\(0<=l.small/\l.small<=2147483647)/\(0<=l.large/\l.large<=2147483647)/\(0<=l.pinned/\l.pinned<=2147483647):=by
 simp[Z12]
def ZbT{w w':Go.World}(h:Go.RowKit.Below w.heap.size w w'):Kept (λ_=>False) w w' :=
 ⟨h.os,h.tape,h.output,h.size,λk hk _=>h.block k hk,λk hk=>by unfold rows;rw[h.block k hk]⟩
def arr1{v:Array Go.Value}(h:v.size=1):∃ a,v = #[a]:=by
 obtain⟨l⟩:=v
 match l,h with
 | [a],_=>exact⟨a,rfl⟩
def arr5{v:Array Go.Value}(h:v.size=5):∃ a b c d e,v = #[a,b,c,d,e]:=by
 obtain⟨l⟩:=v
 match l,h with
 | [a,b,c,d,e],_=>exact⟨a,b,c,d,e,rfl⟩
def Z2n(l:Live):GP 152 [l.av] La (bool (Z12 l)) []:=by
 intro w Im vs hI hn hr;obtain⟨v,rfl⟩:=arr1 hn;obtain⟨cs,rfl,c1,_,c3⟩:=Z3a (hr 0 _ v rfl rfl);obtain⟨a,b,c,d,e,rfl⟩:=arr5 c1;obtain rfl:a = .int .i64 l.objects:=Z0G (c3 0 _ a rfl rfl);obtain rfl:b = .int .i64 l.W:=Z0G (c3 1 _ b rfl rfl);obtain rfl:c = .int .i64 l.small:=Z0G (c3 2 _ c rfl rfl);obtain rfl:d = .int .i64 l.large:=Z0G (c3 3 _ d rfl rfl);obtain rfl:e = .int .i64 l.pinned:=Z0G (c3 4 _ e rfl rfl);refine(Zhd l.objects l.W l.small l.large l.pinned w).mono ?_;rintro en w' ⟨rfl,hb⟩;refine⟨_,rfl,ZbT hb,λ_=>Lh,λ_=>False,λ_ h=>h.elim,λ_ h=>h.elim,(λ_ _ _ h=>by cases h),(λ_ _ _ _ _ h=>by cases h),(λ_ _ h=>by cases h),(λk B h=>by simp at h), ?_⟩;rw[Zpu];exact .d (.sc _ rfl)
def ZgH(ws:List Int)(a n:Int)(hw:ws.length<=1048576)(h0:4096<=a/\1<=n/\n<=1000/\a-4096+n<=ws.length):GP 117 [Z01 ws,u64 a,int n] La (.tu [.ow 0,int 0]) [.arr 35 1 (((ws.drop (a-4096).toNat).take n.toNat).map wdv)]:=by
 have ei1:(Z0b ws a n).1=a-4096:=by rw[Z0b,if_pos oq]
 have e2:(Z0b ws a n).2=La:=by rw[Z0b,if_pos oq];simp;omega
 have hne:(ws.drop (a-4096).toNat).take n.toNat≠[]:=ZhU (by rw[Lt,LF];omega);exact gF [41027] func117 [Lc,La] (Fh 26 [.els (Lf wdv (Lj (((Z0b ws a n).1+n).toNat-(Z0b ws a n).1.toNat) (Li (Z0b ws a n).1.toNat ws)))] (Ffb 11 (Lb (n<0)) (Fc 16 (@Z79 ws a n aa oq) (Ffb 20 (!(Z0b ws a n).2) (Fi 25 ((Z0b ws a n).1+n) (Fa (by(simp only[Lp];omega):0<=(Z0b ws a n).1/\(Z0b ws a n).1<=(Z0b ws a n).1+n/\(Z0b ws a n).1+n<=(↑(Lf wdv ws).length:Int)) (Fa (by simp[e2,Ly,Lx,LG,Lu,wdv,idv]:Lj (((Z0b ws a n).1+n).toNat-(Z0b ws a n).1.toNat) (Li (Z0b ws a n).1.toNat (Lf wdv ws))=Lf wdv (Lj (((Z0b ws a n).1+n).toNat-(Z0b ws a n).1.toNat) (Li (Z0b ws a n).1.toNat ws))) (Fc 27 (@ZdX (Lj (((Z0b ws a n).1+n).toNat-(Z0b ws a n).1.toNat) (Li (Z0b ws a n).1.toNat ws)) (by(simp[e2, *];omega)) (by(simp[e2, *];omega))) (Fa (by exact Z4k _:Z1s (Lf wdv (Lj (((Z0b ws a n).1+n).toNat-(Z0b ws a n).1.toNat) (Li (Z0b ws a n).1.toNat ws)))) (Fr (35:Int) (Fa (by refine congrArg _ ?_;(simp[e2, *];omega):Lf wdv (Lj (((Z0b ws a n).1+n).toNat-(Z0b ws a n).1.toNat) (Li (Z0b ws a n).1.toNat ws))=Lf wdv (Lj n.toNat (Li (a-4096).toNat ws))) Fz)))))))))))
def fstW(l:List Int):Nat:=(l.takeWhile λx=>x==0).length
def ZbQ{l:List Int}{m:Nat}(h:m<fstW l):m<l.length/\l.getD m M=0:=by
 obtain⟨h1,h2⟩:=Zhw _ _ _ h;refine⟨h1, ?_⟩;rw[Lm,Lw h1];simpa using h2
def ZfC{l:List Int}(h:fstW l<l.length):¬ l.getD (fstW l) M=0:=by
 have h2:=ZaE (λx:Int=>x==0) l h;have h3:l.getD (fstW l) M=l[(l.takeWhile λx=>x==0).length]:=by
  rw[Lm,Lw h];rfl
 rw[h3];simpa using h2
def idxW(l:List Int):Int:=if fstW l<l.length then fstW l else -1
def ZjG(x:Int):GP 248 [u64 x] La (bool (x != 0)) []:=by
 exact gF [] func248 [] Fz
def Zhc(l:List Int)(i:Nat):Tg:=⟨tm 19 [(0,Z01 l),(1,.fn 248 []),(4,int 0),(7,int l.length),(8,int i)],[],60⟩
def ZcH(l:List Int)(i:Nat)(hl:l.length<=1048576)(hi:i<l.length)(e:l.getD i M=0):CP (rndF f172 0) (Zhc l i).st .nrm (Zhc l (i+1)).st:=by
 exact sF [] [] (Fh 16 [.call La (Sx.bool (l.getD i M != 0)) [],.br Lc] (Ftb 9 (Lb ((i:Int)<(l.length:Int))) (Fek 14 wdv l (↑i) i (Fa (@ZjG (l.getD i M)) (Fb ((l.getD i M != 0)=Lc) (Fx 18 i Fz))))))
def Zk6(l:List Int)(i:Nat)(hl:l.length<=1048576)(hi:i<l.length)(e:¬ l.getD i M=0):CP (rndF f172 0) (Zhc l i).st .ret (Tg.st ⟨tm 19 [(4,int i)],[],60⟩):=by
 exact sF [] [] (Fh 16 [.call La (Sx.bool (l.getD i M != 0)) [],.br La] (Ftb 9 (Lb ((i:Int)<(l.length:Int))) (Fek 14 wdv l (↑i) i (Fa (@ZjG (l.getD i M)) (Fb ((l.getD i M != 0)=La) Fz)))))
def Zna(l:List Int):CP (rndF f172 0) (Zhc l l.length).st (.ext 0) (Tg.st ⟨tm 19 [(4,int 0)],[],60⟩):=by
 exact sF [] [] (Ffb 9 (Lb ((l.length:Int)<(l.length:Int))) Fz)
def Zlx(l:List Int)(hl:l.length<=1048576)(h:¬ fstW l<l.length)  := Z08 (S:=λj=>(Zhc l j).st) l.length (by kernel_rfl) (λj hj=>ZcH l j hl hj (ZbQ (by omega)).2) (Zna l)
def ZhJ(l:List Int)(hl:l.length<=1048576)(h:fstW l<l.length)  := Z0v (S:=λj=>(Zhc l j).st) (fstW l) (by kernel_rfl) (λj hj=>ZcH l j hl (by omega) (ZbQ hj).2) (Zk6 l (fstW l) hl h (ZfC h))
def ZpJ(l:List Int)(hl:l.length<=1048576):GP 172 [Z01 l,.fn 248 []] La (int (idxW l)) []:=by
 by_cases h:fstW l<l.length
 .have e7:idxW l=fstW l:=if_pos h;rw[e7];exact gF [] func172 [] (Fl 7 wdv l (Fu (@ZhJ l aa aa) Fz))
 .have e7:idxW l=-1:=if_neg h;rw[e7];exact gF [] func172 [] (Fl 7 wdv l (Fu (@Zlx l aa aa) Fz))
def loC(c:List Int)(x:Int):Nat:=(min (max x 0) (c.length:Int)).toNat
def clrW(c:List Int)(x k:Int):List Int:=c.take (loC c x)++Le (loC c (x+k)-loC c x) 0++c.drop (loC c x+(loC c (x+k)-loC c x))
def cwN(h:Heap)(F:Int)(l c:List Int):Nat->List Int
 | 0=>c
 | n+1=>clrW (cwN h F l c n) (l.getD n M-F) (Z3D h (l.getD n M))
def ZeV(c:List Int)(x:Int):loC c x<=c.length:=by unfold loC;omega
def ZfN(c:List Int)(x:Int){k:Int}(hk:0<=k):loC c x<=loC c (x+k):=by unfold loC;omega
def Z9f(h:Heap)(a:Int):0<=Z3D h a/\Z3D h a<=256:=by
 have:=Z0T (atH h a).1;unfold Z3D;split<;>omega
def Zm2(c:List Int)(x:Int){k:Int}(hk:0<=k):(clrW c x k).length=c.length:=by
 have h1:=ZeV c x;have h2:=ZeV c (x+k);have h3:=ZfN c x hk;simp[clrW];omega
def Z9m(h:Heap)(F:Int)(l c:List Int):∀ n,(cwN h F l c n).length=c.length
 | 0=>rfl
 | n+1=>by rw[cwN,Zm2 _ _ (Z9f h _).1,Z9m h F l c n]
def adL(h:Heap)(F:Int)(l c:List Int)(n:Nat):Tg:=⟨tm 90 [(2,.pt 8002 0 0),(4,u64 0),(5,bool Lc),(6,u64 F),(8,.ow 25033),(44,Z01 l),(45,int l.length),(46,int n)],[(25033,.arr 35 1 ((cwN h F l c n).map wdv)),(8002,.box 28 h.cells)],60⟩
def ZnQ(h:Heap)(F:Int)(l c:List Int)(n:Nat)(hw:WOk h.W)(hF:0<=F/\F<=8192)(hl:l.length<=1048576)(hc:c.length<=64)(hr:∀ x∈l,0<=x/\x<=8192)(hn:n<l.length):CP (rndF f229 0) (adL h F l c n).st .nrm (adL h F l c (n+1)).st:=by
 have hx:=hr (l.getD n M) (getD_mem_iff.2 ⟨n,hn,rfl⟩);have hm:=Z27 hw (l.getD n M);have hlen:=Z9m h F l c n;have hs:=Z0T (atH h (l.getD n M)).1;by_cases hk:(atH h (l.getD n M)).1.K=0
 .have ek:Z3D h (l.getD n M)=1:=if_pos hk;have e7:cwN h F l c (n+1)=clrW (cwN h F l c n) (l.getD n M-F) 1:=by rw[cwN,ek]
  exact sF [] (fO 8) (Fh 20000 [.els (Lf wdv (Lj (min (max (l.getD n M-F) 0) (↑(cwN h F l c n).length:Int)).toNat (cwN h F l c n)++Le ((min (max (l.getD n M-F+1) 0) (↑(cwN h F l c n).length:Int)).toNat-(min (max (l.getD n M-F) 0) (↑(cwN h F l c n).length:Int)).toNat) 0++Li ((min (max (l.getD n M-F) 0) (↑(cwN h F l c n).length:Int)).toNat+(Le ((min (max (l.getD n M-F+1) 0) (↑(cwN h F l c n).length:Int)).toNat-(min (max (l.getD n M-F) 0) (↑(cwN h F l c n).length:Int)).toNat) 0).length) (cwN h F l c n)))] (Ftb 47 (Lb ((n:Int)<(l.length:Int))) (Fek 48 wdv l (↑n) n (Fc 53 (@Z2M h (l.getD n M) aa oq) (Ffb 58 ((atH h (l.getD n M)).1.K != 0) (Fi 62 (l.getD n M) (Fi 64 F (Fi 65 (l.getD n M-F) (Fgo 68 (if 0 > l.getD n M-F then 0 else l.getD n M-F) (max (l.getD n M-F) 0) (Fl 70 wdv (cwN h F l c n) (Fgo 71 (if(↑(cwN h F l c n).length:Int)<max (l.getD n M-F) 0 then(↑(cwN h F l c n).length:Int)else max (l.getD n M-F) 0) (min (max (l.getD n M-F) 0) (↑(cwN h F l c n).length:Int)) (Fi 74 (l.getD n M-F+1) (Fgo 75 (if 0 > l.getD n M-F+1 then 0 else l.getD n M-F+1) (max (l.getD n M-F+1) 0) (Fl 77 wdv (cwN h F l c n) (Fgo 78 (if(↑(cwN h F l c n).length:Int)<max (l.getD n M-F+1) 0 then(↑(cwN h F l c n).length:Int)else max (l.getD n M-F+1) 0) (min (max (l.getD n M-F+1) 0) (↑(cwN h F l c n).length:Int)) (Fa (by(simp only[Lp];omega):0<=min (max (l.getD n M-F) 0) (↑(cwN h F l c n).length:Int)/\min (max (l.getD n M-F) 0) (↑(cwN h F l c n).length:Int)<=min (max (l.getD n M-F+1) 0) (↑(cwN h F l c n).length:Int)/\min (max (l.getD n M-F+1) 0) (↑(cwN h F l c n).length:Int)<=(↑(Lf wdv (cwN h F l c n)).length:Int)) (Fa (by simp only[Z0M,Lu,Ly,Lx,L1,Ls];rfl:Z0M (Lf wdv (cwN h F l c n)) (min (max (l.getD n M-F) 0) (↑(cwN h F l c n).length:Int)).toNat (Le ((min (max (l.getD n M-F+1) 0) (↑(cwN h F l c n).length:Int)).toNat-(min (max (l.getD n M-F) 0) (↑(cwN h F l c n).length:Int)).toNat) [du64 0])=Lf wdv (Lj (min (max (l.getD n M-F) 0) (↑(cwN h F l c n).length:Int)).toNat (cwN h F l c n)++Le ((min (max (l.getD n M-F+1) 0) (↑(cwN h F l c n).length:Int)).toNat-(min (max (l.getD n M-F) 0) (↑(cwN h F l c n).length:Int)).toNat) 0++Li ((min (max (l.getD n M-F) 0) (↑(cwN h F l c n).length:Int)).toNat+(Le ((min (max (l.getD n M-F+1) 0) (↑(cwN h F l c n).length:Int)).toNat-(min (max (l.getD n M-F) 0) (↑(cwN h F l c n).length:Int)).toNat) 0).length) (cwN h F l c n))) (Fx 80 n (Fr (35:Int) (Fa (by refine congrArg _ ?_;rw[e7];simp only[clrW,loC,Ls]:Lf wdv (Lj (min (max (l.getD n M-F) 0) (↑(cwN h F l c n).length:Int)).toNat (cwN h F l c n)++Le ((min (max (l.getD n M-F+1) 0) (↑(cwN h F l c n).length:Int)).toNat-(min (max (l.getD n M-F) 0) (↑(cwN h F l c n).length:Int)).toNat) 0++Li ((min (max (l.getD n M-F) 0) (↑(cwN h F l c n).length:Int)).toNat+(Le ((min (max (l.getD n M-F+1) 0) (↑(cwN h F l c n).length:Int)).toNat-(min (max (l.getD n M-F) 0) (↑(cwN h F l c n).length:Int)).toNat) 0).length) (cwN h F l c n))=Lf wdv (cwN h F l c (n+1))) Fz))))))))))))))))))))
 .have ek:Z3D h (l.getD n M)=sizeH (atH h (l.getD n M)).1:=if_neg hk;have e7:cwN h F l c (n+1)=clrW (cwN h F l c n) (l.getD n M-F) (sizeH (atH h (l.getD n M)).1):=by rw[cwN,ek]
  exact sF [] (fO 8) (Fh 20000 [.els (Lf wdv (Lj (min (max (l.getD n M-F) 0) (↑(cwN h F l c n).length:Int)).toNat (cwN h F l c n)++Le ((min (max (l.getD n M-F+sizeH (atH h (l.getD n M)).1) 0) (↑(cwN h F l c n).length:Int)).toNat-(min (max (l.getD n M-F) 0) (↑(cwN h F l c n).length:Int)).toNat) 0++Li ((min (max (l.getD n M-F) 0) (↑(cwN h F l c n).length:Int)).toNat+(Le ((min (max (l.getD n M-F+sizeH (atH h (l.getD n M)).1) 0) (↑(cwN h F l c n).length:Int)).toNat-(min (max (l.getD n M-F) 0) (↑(cwN h F l c n).length:Int)).toNat) 0).length) (cwN h F l c n)))] (Ftb 47 (Lb ((n:Int)<(l.length:Int))) (Fek 48 wdv l (↑n) n (Fc 53 (@Z2M h (l.getD n M) aa oq) (Ftb 58 ((atH h (l.getD n M)).1.K != 0) (Fc 60 (@Z0B ((atH h (l.getD n M)).1) aa) (Fi 62 (l.getD n M) (Fi 64 F (Fi 65 (l.getD n M-F) (Fgo 68 (if 0 > l.getD n M-F then 0 else l.getD n M-F) (max (l.getD n M-F) 0) (Fl 70 wdv (cwN h F l c n) (Fgo 71 (if(↑(cwN h F l c n).length:Int)<max (l.getD n M-F) 0 then(↑(cwN h F l c n).length:Int)else max (l.getD n M-F) 0) (min (max (l.getD n M-F) 0) (↑(cwN h F l c n).length:Int)) (Fi 74 (l.getD n M-F+sizeH (atH h (l.getD n M)).1) (Fgo 75 (if 0 > l.getD n M-F+sizeH (atH h (l.getD n M)).1 then 0 else l.getD n M-F+sizeH (atH h (l.getD n M)).1) (max (l.getD n M-F+sizeH (atH h (l.getD n M)).1) 0) (Fl 77 wdv (cwN h F l c n) (Fgo 78 (if(↑(cwN h F l c n).length:Int)<max (l.getD n M-F+sizeH (atH h (l.getD n M)).1) 0 then(↑(cwN h F l c n).length:Int)else max (l.getD n M-F+sizeH (atH h (l.getD n M)).1) 0) (min (max (l.getD n M-F+sizeH (atH h (l.getD n M)).1) 0) (↑(cwN h F l c n).length:Int)) (Fa (by(simp only[Lp];omega):0<=min (max (l.getD n M-F) 0) (↑(cwN h F l c n).length:Int)/\min (max (l.getD n M-F) 0) (↑(cwN h F l c n).length:Int)<=min (max (l.getD n M-F+sizeH (atH h (l.getD n M)).1) 0) (↑(cwN h F l c n).length:Int)/\min (max (l.getD n M-F+sizeH (atH h (l.getD n M)).1) 0) (↑(cwN h F l c n).length:Int)<=(↑(Lf wdv (cwN h F l c n)).length:Int)) (Fa (by simp only[Z0M,Lu,Ly,Lx,L1,Ls];rfl:Z0M (Lf wdv (cwN h F l c n)) (min (max (l.getD n M-F) 0) (↑(cwN h F l c n).length:Int)).toNat (Le ((min (max (l.getD n M-F+sizeH (atH h (l.getD n M)).1) 0) (↑(cwN h F l c n).length:Int)).toNat-(min (max (l.getD n M-F) 0) (↑(cwN h F l c n).length:Int)).toNat) [du64 0])=Lf wdv (Lj (min (max (l.getD n M-F) 0) (↑(cwN h F l c n).length:Int)).toNat (cwN h F l c n)++Le ((min (max (l.getD n M-F+sizeH (atH h (l.getD n M)).1) 0) (↑(cwN h F l c n).length:Int)).toNat-(min (max (l.getD n M-F) 0) (↑(cwN h F l c n).length:Int)).toNat) 0++Li ((min (max (l.getD n M-F) 0) (↑(cwN h F l c n).length:Int)).toNat+(Le ((min (max (l.getD n M-F+sizeH (atH h (l.getD n M)).1) 0) (↑(cwN h F l c n).length:Int)).toNat-(min (max (l.getD n M-F) 0) (↑(cwN h F l c n).length:Int)).toNat) 0).length) (cwN h F l c n))) (Fx 80 n (Fr (35:Int) (Fa (by refine congrArg _ ?_;rw[e7];simp only[clrW,loC,Ls]:Lf wdv (Lj (min (max (l.getD n M-F) 0) (↑(cwN h F l c n).length:Int)).toNat (cwN h F l c n)++Le ((min (max (l.getD n M-F+sizeH (atH h (l.getD n M)).1) 0) (↑(cwN h F l c n).length:Int)).toNat-(min (max (l.getD n M-F) 0) (↑(cwN h F l c n).length:Int)).toNat) 0++Li ((min (max (l.getD n M-F) 0) (↑(cwN h F l c n).length:Int)).toNat+(Le ((min (max (l.getD n M-F+sizeH (atH h (l.getD n M)).1) 0) (↑(cwN h F l c n).length:Int)).toNat-(min (max (l.getD n M-F) 0) (↑(cwN h F l c n).length:Int)).toNat) 0).length) (cwN h F l c n))=Lf wdv (cwN h F l c (n+1))) Fz)))))))))))))))))))))
def Zqc(h:Heap)(F:Int)(l c:List Int):CP (rndF f229 0) (adL h F l c l.length).st (.ext 0) (Tg.st ⟨tm 90 [(4,u64 0),(5,bool Lc),(6,u64 F),(8,.ow 25033)],[(25033,.arr 35 1 ((cwN h F l c l.length).map wdv))],60⟩):=by
 exact sF [] [] (Ffb 47 (Lb ((l.length:Int)<(l.length:Int))) Fz)
def ZoU(h:Heap)(F:Int)(l c:List Int)(hw:WOk h.W)(hF:0<=F/\F<=8192)(hl:l.length<=1048576)(hc:c.length<=64)(hr:∀ x∈l,0<=x/\x<=8192):CP (blkF f229 0) (Tg.st ⟨tm 90 [(2,.pt 8002 0 0),(4,u64 0),(5,bool Lc),(6,u64 F),(8,.ow 25033),(44,Z01 l),(45,int l.length),(46,int 0)],[(25033,.arr 35 1 (c.map wdv)),(8002,.box 28 h.cells)],60⟩) .nrm
  (Tg.st ⟨tm 90 [(4,u64 0),(5,bool Lc),(6,u64 F),(8,.ow 25033)],[(25033,.arr 35 1 ((cwN h F l c l.length).map wdv))],60⟩) :=
 Z08 (S:=λn=>(adL h F l c n).st) l.length kr (λn hn=>ZnQ h F l c n hw hF hl hc hr hn) (Zqc h F l c)
def rawP(h:Heap)(i:Nat):List Int:=(h.W.drop ((address h.C i 0).1-4096).toNat).take h.C.pw.toNat
def clrP(h:Heap)(i:Nat):List Int:=cwN h (address h.C i 0).1 (Z07 h (Z0s h.P i:Nat)).1 (rawP h i) (Z07 h (Z0s h.P i:Nat)).1.length
def Z6G(h:Heap)(i:Nat)(hw:WOk h.W)(hp:Z02 h=La)(hi:i<h.P.length):GP 229 [h.av,int i] La (.tu [u64 ((address h.C i 0).1+max (idxW (clrP h i)) 0),bool (Lb (0<=idxW (clrP h i)))]) []:=by
 have po:=Z0a hp;have ea:(address h.C i 0).1=4096+i*h.C.pw:=by
  unfold address;rw[if_pos po.1,if_pos (inB_iff.2 oq)];simp only;omega
 have ap:=Z2z po.1 (i:=i) oq oq;have hh:=ZbC h.P i;have hx:(i:Int)*h.C.pw+h.C.pw<=h.W.length:=by
  have h1:((i:Int)+1)*h.C.pw<=h.C.pg*h.C.pw:=LS oq oq;have h2:((i:Int)+1)*h.C.pw=i*h.C.pw+h.C.pw:=by rw[LR,LU]
  have h3:h.C.pg*h.C.pw=h.C.pw*h.C.pg:=LB _ _;omega
 have hr:=Z2B hp (Z0s h.P i:Nat);have hn:=Z2K h (Z0s h.P i:Nat);have hlen:(clrP h i).length<=64:=by
  rw[clrP,Z9m,rawP,Lt];omega
 have hix:idxW (clrP h i)<=64/\-1<=idxW (clrP h i):=by
  have:fstW (clrP h i)<=(clrP h i).length:=(List.takeWhile_sublist _).length_le;unfold idxW;split<;>omega
 have hrl:(rawP h i).length<=64:=by rw[rawP,Lt];omega
 unfold clrP rawP at *;let y1:=address h.C (i:Int) 0;let y0:=cwN h y1.1 (Z07 h (↑(Z0s h.P i):Int)).1 (Lj h.C.pw.toNat (Li (y1.1-4096).toNat h.W)) (Z07 h (↑(Z0s h.P i):Int)).1.length;exact gF [] func229 [] (Fc 23 (@Z4e h.C ((i:Int)) (0)) (Fc 33 (@ZgH h.W (y1.1) h.C.pw oq oq) (Fc 40 (@Zjz h i aa aa) (Fc 41 (@Z3l h ((↑(Z0s h.P i):Int)) aa oq) (Fl 45 wdv (Z07 h (↑(Z0s h.P i):Int)).1 (Fu (@ZoU h (y1.1) ((Z07 h (↑(Z0s h.P i):Int)).1) (Lj h.C.pw.toNat (Li (y1.1-4096).toNat h.W)) aa oq oq aa aa) (Fc 82 (@ZpJ y0 oq) (Fgo 85 (if 0 > idxW y0 then 0 else idxW y0) (max (idxW y0) 0) (Fv 86 (max (idxW y0) 0) (Fv 87 (y1.1+max (idxW y0) 0) Fz))))))))))
def unS(fn:Func):Func:=match fn.body with
 | some (.seq x (.scope c)) => { fn with body:=Ld (.seq x c) }
 | _=>fn
def firS(fn:Func):Code:=match fn.body with
 | some (.seq x _)=>x
 | _=>.skip
def bdyS(fn:Func):Code:=match fn.body with
 | some (.seq _ c)=>c
 | _=>.skip
def ZhY{P:Program}{c:Code}{n m:Nat}{s t:St}(hmn:m≠n)(h:CSpec P c s (.ext m) t):CSpec P (.block n c) s (.ext m) t:=by
 intro Ow Im0 w0 a w hS;refine wp_block (wp_mono (h Ow Im0 w0 a w hS) ?_);rintro e a' w' ⟨rfl,hS'⟩;show(if m=n then _ else _);rw[if_neg hmn];exact⟨rfl,hS'⟩
def Ze0{P:Program}{fn:Func}{b m:Nat}{S:Nat->St}{t:St}(n:Nat)(hb:Z63 b (blkF fn b)=La)(hm:m≠b)(h:∀ i,i<n->CSpec P (rndF fn b) (S i) .nrm (S (i+1)))(hn:CSpec P (rndF fn b) (S n) (.ext m) t):CSpec P (blkF fn b) (S 0) (.ext m) t:=by
 rw[Z6q hb];exact ZhY hm (Ze9 (Zey n h (λh=>nomatch h) hn))
def fdV(h:Heap)(a k:Int):Int:=(loadA h.W (a+1+k)).1
def pbad(h:Heap)(all:List Int)(a k:Int):Bool:=(fdV h a k != 0)&&!decide (fdV h a k∈all)
def pbad_yes{h:Heap}{all:List Int}{a k:Int}:pbad h all a k=La↔¬ fdV h a k=0/\¬ fdV h a k∈all:=by simp[pbad]
def pbad_no{h:Heap}{all:List Int}{a k:Int}:pbad h all a k=Lc↔fdV h a k=0\/fdV h a k∈all:=by
 by_cases h1:fdV h a k=0<;>by_cases h2:fdV h a k∈all<;>simp[pbad,h1,h2]
def yJ(a:Int)(P:List Int):Nat->Int
 | 0=>0
 | j+1=>a+1+P.getD j M
def apI(h:Heap)(all:List Int)(i:Nat)(a:Int)(P:List Int)(j:Nat):Tg:=⟨tm 83 [(1,.pt 8001 0 0),(2,.pt 8002 0 0),(3,Z01 all),(5,u64 (yJ a P j)),(7,u64 a),(24,Z01 all),(25,int all.length),(26,int i),(37,Z0K P),(38,int P.length),(39,int j)],[(8002,.box 223 [int 0,int 0,u64 0]),(8001,.box 28 h.cells)],64⟩
section
variable (h:Heap) (all:List Int) (i:Nat) (a:Int) (P:List Int) (j:Nat) (hw:WOk h.W) (hwl:h.W.length<=1048576) (hl:all.length<=1048576) (hs:all.Pairwise (· < ·)) (ha:0<=a/\a<=8192) (hP:P.length<=256) (hk:0<=P.getD j M/\P.getD j M<=256) (hj:j<P.length)
include hw hwl hl hs ha hP hk hj
theorem Zf7(hb:pbad h all a (P.getD j M)=Lc):CP (rndF (unS f207) 2) (apI h all i a P j).st .nrm (apI h all i a P (j+1)).st:=by
 have ey:yJ a P (j+1)=a+1+P.getD j M:=rfl;have hb':=pbad_no.1 hb;unfold fdV at hb';clear hb;generalize hy:yJ a P (j+1)=y1 at ey;unfold apI;rw[hy];rcases hb' with hb | hb
 .exact sF [] (fO 5) (Ftb 40 (Lb ((j:Int)<(P.length:Int))) (Fek 41 idv P (↑j) j (Fv 44 (a+1) (Fv 46 (P.getD j M) (Fv 47 (a+1+P.getD j M) (Fc 52 (@Z42 h.W (a+1+P.getD j M) aa oq) (Fc 58 (@bsearch all ((loadA h.W (a+1+P.getD j M)).1) aa aa) (Ffb 66 ((loadA h.W (a+1+P.getD j M)).1 != 0&&!decide ((loadA h.W (a+1+P.getD j M)).1∈all)) (Fx 67 j (Fa ‹a+1+P.getD j M=y1› Fz))))))))))
 .exact sF [] (fO 5) (Ftb 40 (Lb ((j:Int)<(P.length:Int))) (Fek 41 idv P (↑j) j (Fv 44 (a+1) (Fv 46 (P.getD j M) (Fv 47 (a+1+P.getD j M) (Fc 52 (@Z42 h.W (a+1+P.getD j M) aa oq) (Fc 58 (@bsearch all ((loadA h.W (a+1+P.getD j M)).1) aa aa) (Ffs 66 ((loadA h.W (a+1+P.getD j M)).1 != 0&&!decide ((loadA h.W (a+1+P.getD j M)).1∈all)) (Fx 67 j (Fa ‹a+1+P.getD j M=y1› Fz))))))))))
theorem Zkn(hb:pbad h all a (P.getD j M)=La):CP (rndF (unS f207) 2) (apI h all i a P j).st (.ext 0) (Tg.st ⟨tm 83 [(1,.pt 8001 0 0),(2,.pt 8002 0 0),(5,u64 (a+1+P.getD j M))],[(8002,.box 223 [int 0,int 0,u64 0]),(8001,.box 28 h.cells)],68⟩):=by
 obtain⟨hb1,hb2⟩:=pbad_yes.1 hb;unfold fdV at hb1 hb2;clear hb;exact sF [] [] (Ftb 40 (Lb ((j:Int)<(P.length:Int))) (Fek 41 idv P (↑j) j (Fv 44 (a+1) (Fv 46 (P.getD j M) (Fv 47 (a+1+P.getD j M) (Fc 52 (@Z42 h.W (a+1+P.getD j M) aa oq) (Fc 58 (@bsearch all ((loadA h.W (a+1+P.getD j M)).1) aa aa) (Fts 66 ((loadA h.W (a+1+P.getD j M)).1 != 0&&!decide ((loadA h.W (a+1+P.getD j M)).1∈all)) Fz))))))))
end
def Zp8(h:Heap)(all:List Int)(i:Nat)(a:Int)(P:List Int):CP (rndF (unS f207) 2) (apI h all i a P P.length).st (.ext 2) (Tg.st ⟨tm 83 [(1,.pt 8001 0 0),(2,.pt 8002 0 0),(3,Z01 all),(24,Z01 all),(25,int all.length),(26,int i)],[(8002,.box 223 [int 0,int 0,u64 0]),(8001,.box 28 h.cells)],68⟩):=by
 exact sF [] [] (Ffb 40 (Lb ((P.length:Int)<(P.length:Int))) Fz)
def Zob(h:Heap)(all:List Int)(i:Nat)(a:Int)(P:List Int)(hw:WOk h.W)(hwl:h.W.length<=1048576)(hl:all.length<=1048576)(hs:all.Pairwise (· < ·))(ha:0<=a/\a<=8192)(hP:P.length<=256)(hk:∀ k∈P,0<=k/\k<=256)(hf:P.find? (pbad h all a)=Lh) :
  CP (blkF (unS f207) 2) (Tg.st ⟨tm 83 [(1,.pt 8001 0 0),(2,.pt 8002 0 0),(3,Z01 all),(5,u64 0),(7,u64 a),(24,Z01 all),(25,int all.length),(26,int i),(37,Z0K P),(38,int P.length),(39,int 0)],[(8002,.box 223 [int 0,int 0,u64 0]),(8001,.box 28 h.cells)],64⟩) .nrm (Tg.st ⟨tm 83 [(1,.pt 8001 0 0),(2,.pt 8002 0 0),(3,Z01 all),(24,Z01 all),(25,int all.length),(26,int i)],[(8002,.box 223 [int 0,int 0,u64 0]),(8001,.box 28 h.cells)],68⟩) :=
 Z08 (S:=λj=>(apI h all i a P j).st) P.length kr (λj hj=>Zf7 h all i a P j hw hwl hl hs ha hP (hk _ (getD_mem_iff.2 ⟨j,hj,rfl⟩)) hj (Z6D hf j hj)) (Zp8 h all i a P)
def Zlk(h:Heap)(all:List Int)(i:Nat)(a:Int)(P:List Int)(x:Int)(hw:WOk h.W)(hwl:h.W.length<=1048576)(hl:all.length<=1048576)(hs:all.Pairwise (· < ·))(ha:0<=a/\a<=8192)(hP:P.length<=256)(hk:∀ k∈P,0<=k/\k<=256)(hf:P.find? (pbad h all a)=Ld x) :
  CP (blkF (unS f207) 2) (Tg.st ⟨tm 83 [(1,.pt 8001 0 0),(2,.pt 8002 0 0),(3,Z01 all),(5,u64 0),(7,u64 a),(24,Z01 all),(25,int all.length),(26,int i),(37,Z0K P),(38,int P.length),(39,int 0)],[(8002,.box 223 [int 0,int 0,u64 0]),(8001,.box 28 h.cells)],64⟩) (.ext 0) (Tg.st ⟨tm 83 [(1,.pt 8001 0 0),(2,.pt 8002 0 0),(5,u64 (a+1+x))],[(8002,.box 223 [int 0,int 0,u64 0]),(8001,.box 28 h.cells)],68⟩):=by
 obtain⟨n,h1,h2,h3,h4⟩:=Z3C hf;subst h2;exact Ze0 (S:=λj=>(apI h all i a P j).st) n kr dd (λj hj=>Zf7 h all i a P j hw hwl hl hs ha hP (hk _ (getD_mem_iff.2 ⟨j,by omega,rfl⟩)) oq (h4 j hj)) (Zkn h all i a P n hw hwl hl hs ha hP (hk _ (getD_mem_iff.2 ⟨n,h1,rfl⟩)) h1 h3)
def apF(h:Heap)(all:List Int)(a:Int):Option Int:=(Z04 (atH h a).1).find? (pbad h all a)
def apL(h:Heap)(all:List Int)(i:Nat):Tg:=⟨tm 83 [(1,.pt 8001 0 0),(2,.pt 8002 0 0),(3,Z01 all),(5,u64 0),(24,Z01 all),(25,int all.length),(26,int i)],[(8002,.box 223 [int 0,int 0,u64 0]),(8001,.box 28 h.cells)],60⟩
def Z6J(h:Header):∀ n:Nat,∀ k∈Z0P h n,0<=k/\k<n
 | 0,k,hk=>by simp[Z0P]at hk
 | n+1,k,hk=>by
  unfold Z0P at hk;split at hk
  .rcases List.mem_append.1 hk with hk | hk
   .have:=Z6J h n k hk;omega
   .simp only[Lz,LI,or_false]at hk;omega
  .have:=Z6J h n k hk;omega
def Z4q(h:Header):(Z04 h).length<=256/\∀ k∈Z04 h,0<=k/\k<=256:=by
 rw[<- Z7i];have hs:=Z0T h;have h1:=Z45 h (sizeH h).toNat
 exact⟨by omega,λk hk=>by have:=Z6J h _ k hk;omega⟩
section
variable (h:Heap) (all:List Int) (i:Nat) (hw:WOk h.W) (hwl:h.W.length<=1048576) (hl:all.length<=1048576) (hs:all.Pairwise (· < ·)) (hr:∀ x∈all,0<=x/\x<=8192) (hi:i<all.length)
include hw hwl hl hs hr hi
theorem Zjx(hb:apF h all (all.getD i M)=Lh):CP (rndF (unS f207) 0) (apL h all i).st .nrm (apL h all (i+1)).st:=by
 have hx:=hr (all.getD i M) (getD_mem_iff.2 ⟨i,hi,rfl⟩);have hm:=Z27 hw (all.getD i M);have hq:=Z4q (atH h (all.getD i M)).1;have hq1:=hq.1;have hq2:=hq.2;unfold apF at hb;let y0:=all.getD i M;let y1:=Z04 (atH h y0).1;exact sF [] [] (Fk (2,Tg.mk (tm 83 [(1,AV.pt 8001 0 0),(2,AV.pt 8002 0 0),(3,Z01 all),(5,u64 0),(7,u64 y0),(24,Z01 all),(25,int ↑all.length),(26,int ↑i),(37,Z0K y1),(38,int (y1.length:Int)),(39,int 0)]) [(8002,Blk.box 223 [int 0,int 0,u64 0]),(8001,Blk.box 28 h.cells)] 64,Ex.nrm,Tg.mk (tm 83 [(1,AV.pt 8001 0 0),(2,AV.pt 8002 0 0),(3,Z01 all),(24,Z01 all),(25,int ↑all.length),(26,int ↑i)]) [(8002,Blk.box 223 [int 0,int 0,u64 0]),(8001,Blk.box 28 h.cells)] 68) (Ftb 27 (Lb ((i:Int)<(all.length:Int))) (Fek 28 wdv all (↑i) i (Fc 33 (@Z2M h y0 aa oq) (Fc 37 (@Z34 ((atH h y0).1) aa) (Fl 38 idv y1 (Fa (@Zob h all i y0 y1 aa aa aa aa aa aa aa aa) (Fx 68 i Fz))))))))
theorem ZmZ(x:Int)(hb:apF h all (all.getD i M)=Ld x):CP (rndF (unS f207) 0) (apL h all i).st (.ext 0) (Tg.st ⟨tm 83 [(1,.pt 8001 0 0),(2,.pt 8002 0 0),(5,u64 (all.getD i M+1+x))],[(8002,.box 223 [int 0,int 0,u64 0]),(8001,.box 28 h.cells)],72⟩):=by
 have hx:=hr (all.getD i M) (getD_mem_iff.2 ⟨i,hi,rfl⟩);have hm:=Z27 hw (all.getD i M);have hq:=Z4q (atH h (all.getD i M)).1;have hq1:=hq.1;have hq2:=hq.2;unfold apF at hb;let y0:=all.getD i M;let y1:=Z04 (atH h y0).1;exact sF [] [] (Fk (2,Tg.mk (tm 83 [(1,AV.pt 8001 0 0),(2,AV.pt 8002 0 0),(3,Z01 all),(5,u64 0),(7,u64 y0),(24,Z01 all),(25,int ↑all.length),(26,int ↑i),(37,Z0K y1),(38,int (y1.length:Int)),(39,int 0)]) [(8002,Blk.box 223 [int 0,int 0,u64 0]),(8001,Blk.box 28 h.cells)] 64,Ex.ext 0,Tg.mk (tm 83 [(1,AV.pt 8001 0 0),(2,AV.pt 8002 0 0),(5,u64 (all.getD i M+1+x))]) [(8002,Blk.box 223 [int 0,int 0,u64 0]),(8001,Blk.box 28 h.cells)] 68) (Ftb 27 (Lb ((i:Int)<(all.length:Int))) (Fek 28 wdv all (↑i) i (Fc 33 (@Z2M h y0 aa oq) (Fc 37 (@Z34 ((atH h y0).1) aa) (Fl 38 idv y1 (Fa (@Zlk h all i y0 y1 x aa aa aa aa aa aa aa aa) Fz)))))))
end
def Zq3(h:Heap)(all:List Int):CP (rndF (unS f207) 0) (apL h all all.length).st (.ext 0) (Tg.st ⟨tm 83 [(1,.pt 8001 0 0),(2,.pt 8002 0 0),(5,u64 0)],[(8002,.box 223 [int 0,int 0,u64 0]),(8001,.box 28 h.cells)],72⟩):=by
 exact sF [] [] (Ffb 27 (Lb ((all.length:Int)<(all.length:Int))) Fz)
def Zpq(h:Heap)(all:List Int)(hw:WOk h.W)(hwl:h.W.length<=1048576)(hl:all.length<=1048576)(hs:all.Pairwise (· < ·))(hr:∀ x∈all,0<=x/\x<=8192)(hf:all.find? (λa=>(apF h all a).isSome)=Lh)  := Z08 (S:=λi=>(apL h all i).st) all.length (by kernel_rfl) (λi hi=>Zjx h all i hw hwl hl hs hr hi (by simpa using Z6D hf i hi)) (Zq3 h all)
def Znr(h:Heap)(all:List Int)(a x:Int)(hw:WOk h.W)(hwl:h.W.length<=1048576)(hl:all.length<=1048576)(hs:all.Pairwise (· < ·))(hr:∀ x∈all,0<=x/\x<=8192)(hf:all.find? (λa=>(apF h all a).isSome)=Ld a)(hx:apF h all a=Ld x):CP (blkF (unS f207) 0) (Tg.st ⟨tm 83 [(1,.pt 8001 0 0),(2,.pt 8002 0 0),(3,Z01 all),(5,u64 0),(24,Z01 all),(25,int all.length),(26,int 0)],[(8002,.box 223 [int 0,int 0,u64 0]),(8001,.box 28 h.cells)],60⟩) .nrm (Tg.st ⟨tm 83 [(1,.pt 8001 0 0),(2,.pt 8002 0 0),(5,u64 (a+1+x))],[(8002,.box 223 [int 0,int 0,u64 0]),(8001,.box 28 h.cells)],72⟩):=by
 obtain⟨n,h1,h2,h3,h4⟩:=Z3C hf;subst h2;exact Z08 (S:=λi=>(apL h all i).st) n kr (λi hi=>Zjx h all i hw hwl hl hs hr oq (by simpa using h4 i hi)) (ZmZ h all n hw hwl hl hs hr h1 x hx)
def Zqb(h:Heap):CP (firS (unS f207)) (Tg.st ⟨tm 83 [(0,h.av)],[],1⟩) .nrm (Tg.st ⟨tm 83 [(1,.pt 8001 0 0),(2,.pt 8002 0 0)],[(8002,.box 223 [int 0,int 0,u64 0]),(8001,.box 28 h.cells)],20⟩):=by
 exact sF [] [] Fz
def apAt(h:Heap):Int:=match (Z03 h).1.find? (λa=>(apF h (Z03 h).1 a).isSome)with
 | some a=>a+1+(apF h (Z03 h).1 a).getD 0
 | none=>0
def apW(h:Heap):Finding:=if apAt h=0 then⟨0,0,0⟩else⟨6,(ofA h.C (apAt h)).1,apAt h⟩
def Zq8(h:Heap)(hw:WOk h.W)(hwl:h.W.length<=1048576):CP (bdyS (unS f207)) (Tg.st ⟨tm 83 [(1,.pt 8001 0 0),(2,.pt 8002 0 0)],[(8002,.box 223 [int 0,int 0,u64 0]),(8001,.box 28 h.cells)],20⟩) .ret (Tg.st ⟨tm 83 [(2,.pt 8002 0 0)],[(8002,.box 223 [int (apW h).fault,int (apW h).page,u64 (apW h).addr])],90⟩):=by
 have hl:=Z0F h;have hs:=Z2Q h;have hr:=Z18 h;cases hf:(Z03 h).1.find? (λa=>(apF h (Z03 h).1 a).isSome)with
 | none =>
  have e1:apAt h=0:=by simp only[apAt,hf]
  have e7:apW h=⟨0,0,0⟩:=if_pos e1;rw[e7];exact sF [] [] (Fk (0,Tg.mk (tm 83 [(1,AV.pt 8001 0 0),(2,AV.pt 8002 0 0),(3,Z01 (Z03 h).1),(5,u64 0),(24,Z01 (Z03 h).1),(25,int (↑(Z03 h).1.length:Int)),(26,int 0)]) [(8002,Blk.box 223 [int 0,int 0,u64 0]),(8001,Blk.box 28 h.cells)] 60,Ex.nrm,Tg.mk (tm 83 [(1,AV.pt 8001 0 0),(2,AV.pt 8002 0 0),(5,u64 0)]) [(8002,Blk.box 223 [int 0,int 0,u64 0]),(8001,Blk.box 28 h.cells)] 72) (Fc 21 (@Z2x h aa) (Fl 25 wdv (Z03 h).1 (Fa (@Zpq h ((Z03 h).1) aa aa oq aa aa aa) Fz))))
 | some a =>
  obtain⟨n,h1,h2,h3,h4⟩:=Z3C hf;obtain⟨x,hx⟩:=L9.1 h3;have ha:=hr a (getD_mem_iff.2 ⟨n,h1,h2⟩);have hxr:=(Z4q (atH h a).1).2 x (L3 hx);have e1:apAt h=a+1+x:=by simp only[apAt,hf,hx,LL]
  have e7:apW h=⟨6,(ofA h.C (a+1+x)).1,a+1+x⟩:=by rw[apW,e1,if_neg oq]
  rw[e7];exact sF [] [] (Fk (0,Tg.mk (tm 83 [(1,AV.pt 8001 0 0),(2,AV.pt 8002 0 0),(3,Z01 (Z03 h).1),(5,u64 0),(24,Z01 (Z03 h).1),(25,int (↑(Z03 h).1.length:Int)),(26,int 0)]) [(8002,Blk.box 223 [int 0,int 0,u64 0]),(8001,Blk.box 28 h.cells)] 60,Ex.nrm,Tg.mk (tm 83 [(1,AV.pt 8001 0 0),(2,AV.pt 8002 0 0),(5,u64 (a+1+x))]) [(8002,Blk.box 223 [int 0,int 0,u64 0]),(8001,Blk.box 28 h.cells)] 72) (Fc 21 (@Z2x h aa) (Fl 25 wdv (Z03 h).1 (Fa (@Znr h ((Z03 h).1) a x aa aa oq aa aa aa aa) (Ffb 70 (a+1+x==0) (Fc 76 (@Z3B h.C (a+1+x) oq oq) Fz))))))
end Go.Proofs.YtgedmeaemofdkaaGreat
namespace Go.Proofs.YtgedmeaemofdkaaGreat
open Go.Sx Go.RowKit
def Finding.val(f:Finding):Value:=.agg #[.int .i64 f.fault,.int .i64 f.page,.int .u64 f.addr]
def ZdK(ρ:Rho)(w:World)(Im:Nat->Prop)(f:Finding):Rel ρ w Im f.av f.val:=by
 refine .ag _ _ rfl (λi v h=>?_) (λi a v ha hv=>?_)
 .rcases i with _ | _ | _ | i<;>simp at h<;>subst h<;>rfl
 .rcases i with _ | _ | _ | i<;>simp at ha hv<;>subst ha<;>subst hv<;>exact .d (.sc _ rfl)
def Zgz{ρ:Rho}{w:World}{Im:Nat->Prop}{f:Finding}{v:Value}(h:Rel ρ w Im f.av v):v=f.val:=by
 obtain⟨cs,h1,h2,h3,h4⟩:=Z3a h;rw[h1];have g:∀ (k:Nat) (hk:k<cs.size) (v:Value),[int f.fault,int f.page,u64 f.addr][k]? = Ld (.d (.sc v))->cs[k]=v:=λk hk v hv=>Z0G (h4 k _ cs[k] hv (Array.getElem?_eq_getElem hk));have hs:cs.size=3:=h2;simp only[Finding.val];congr 1;apply Array.ext
 .simp[hs]
 .intro k hk _;rcases k with _ | _ | _ | k
  .exact g 0 hk _ rfl
  .exact g 1 hk _ rfl
  .exact g 2 hk _ rfl
  .omega
def noGoto_ret{Q:Exit->Act->World->Prop}{a:Act}{w:World}(h:Q .ret a w):Exit.noGoto Q Ex.ret.exit a w:=h
def Z4i(h:Heap)(hw:WOk h.W)(hwl:h.W.length<=1048576):GP 207 [h.av] La (apW h).av []:=by
 intro w00 Im vs hIm hsz hargs;have hs1:vs.size=1:=hsz;have hbody:Tryz.f207.body=Ld (.seq (firS (unS f207)) (.scope (bdyS (unS f207)))):=by kernel_rfl
 refine calls_of_wp func207 hbody ?_;have S0:Sx.Sys Z3E Im w00 (tm 83 [(0,h.av)]) (hOf []) 1 { tmps:=vs++LN (Tryz.f207.ntmps-vs.size) undef,defers:=[] } w00:=by
  refine⟨_,Im,Sx.Inv.empty hIm (Ln 1),⟨by rw[hs1];simp[hs1];kernel_rfl,λk y v hy hv=>?_,rfl⟩⟩;rw[show tm 83 [(0,h.av)]=[h.av]++Le 82 .any from by kernel_rfl,LY]at hy;rw[LM]at hv;split at hy
  .rename_i hk;rw[if_pos (by rw[hsz];exact hk)]at hv;exact hargs k y v hy hv
  .have:=L4 hy;rw[(LH.1 this).2];exact .any _
 refine wp_seq (wp_mono (Zqb h _ _ _ _ _ S0) ?_);rintro e a1 w1 ⟨rfl,S1⟩;refine wp_scope_straight (wp_mono (Zq8 h hw hwl _ _ _ _ _ S1) ?_);rintro e a2 w2 ⟨rfl,ρ2,Im2,I2,T2⟩;obtain⟨v,hv1,hv2⟩:=Z78 (P:=prog) (fn:=f207) (l:=[(apW h).av]) I2 T2 kr;refine noGoto_ret (bodyPost_ret hv1 T2.defers ⟨v,rfl,I2.kept.no,λ_=>Lh,λ_=>False,λ_ q=>q.elim,λ_ q=>q.elim,λ_ _ _ q=>(by cases q),λ_ _ _ _ _ q=>(by cases q),λ_ _ q=>(by cases q),λk B q=>by simp at q, ?_⟩);rw[Zgz (show Rel ρ2 w2 Im2 (apW h).av v from hv2)];exact ZdK _ _ _ _
end Go.Proofs.YtgedmeaemofdkaaGreat
namespace Go.Proofs.YtgedmeaemofdkaaGreat
open Go.Sx
def ZlD{c:List Int}{x k:Int}(hk:0<=k){o:Nat}(ho:o<c.length):(clrW c x k).getD o 0=if x<=o/\(o:Int)<x+k then 0 else c.getD o 0:=by
 have h1:loC c x<=c.length:=ZeV c x;have h2:loC c (x+k)<=c.length:=ZeV c (x+k);have h3:=ZfN c x hk;have e1:loC c x+(loC c (x+k)-loC c x)=loC c (x+k):=by omega
 have a1:o<loC c x↔(o:Int)<x:=by unfold loC;omega
 have a2:o<loC c (x+k)↔(o:Int)<x+k:=by unfold loC;omega
 unfold clrW;rw[e1];simp only[Lm];by_cases h4:o<loC c x
 .rw[List.append_assoc,LZ qo,LD,if_pos h4,if_neg (by have:=a1.1 h4;omega)]
 .by_cases h5:o<loC c (x+k)
  .rw[LZ qo,L0 qo,if_pos (by have:=a2.1 h5;omega)];rw[List.getElem?_replicate,if_pos qo];rfl
  .rw[L0 qo,LC,if_neg (λq=>h5 (a2.2 q.2))];congr 2;simp;omega
def ZiL{h:Heap}{F:Int}{l c:List Int}{o:Nat}(ho:o<c.length):∀ n:Nat,n<=l.length->(cwN h F l c n).getD o 0=if(l.take n).any (λa=>Lb (a-F<=o)&&Lb ((o:Int)<a-F+Z3D h a))=La then 0 else c.getD o 0
 | 0,_=>by simp[cwN]
 | n+1,hn=>by
  have hl:=Z9m h F l c n;rw[cwN,ZlD (Z9f h _).1 oq,ZiL ho n oq,Z9p oq,List.any_append];generalize l.getD n M=a;generalize (l.take n).any _=b;by_cases h1:a-F<=o/\(o:Int)<a-F+Z3D h a
  .rw[if_pos h1,if_pos (by simp[h1])]
  .rw[if_neg h1];have:([a].any λa=>Lb (a-F<=(o:Int))&&Lb ((o:Int)<a-F+Z3D h a))=Lc:=by
    simp only[List.any_cons,List.any_nil,LQ,Bool.and_eq_false_iff,decide_eq_false_iff_not];omega
   rw[this,LQ]
def Zc2{h:Heap}(hp:Z02 h=La){i:Nat}(hi:i<h.P.length){o:Int}(ho:0<=o/\o<h.C.pw):(address h.C i o).1=4096+(i*h.C.pw+o):=by
 have po:=Z0a hp;unfold address;rw[if_pos po.1,if_pos (inB_iff.2 oq)]
def Zed{h:Heap}(hp:Z02 h=La){i:Nat}(hi:i<h.P.length):0<=(i:Int)*h.C.pw/\(i:Int)*h.C.pw+h.C.pw<=h.W.length:=by
 have po:=Z0a hp;have h1:((i:Int)+1)*h.C.pw<=h.C.pg*h.C.pw:=LS oq oq;have h2:((i:Int)+1)*h.C.pw=i*h.C.pw+h.C.pw:=by rw[LR,LU]
 have h3:h.C.pg*h.C.pw=h.C.pw*h.C.pg:=LB _ _;have h4:(0:Int)<=i*h.C.pw:=Int.mul_nonneg oq oq;omega
def ZkO{h:Heap}(hp:Z02 h=La){i:Nat}(hi:i<h.P.length):(rawP h i).length=h.C.pw.toNat/\∀ o:Nat,o<h.C.pw.toNat->(rawP h i).getD o 0=Z3x h i o:=by
 have po:=Z0a hp;have pi:=Zed hp hi;have e0:=Zc2 hp hi (o:=0) oq;constructor
 .simp only[rawP,Lt,LF];omega
 .intro o ho;have e1:=Zc2 hp hi (o:=o) oq;unfold Z3x loadA;rw[e1];rw[if_pos oq];simp only[rawP,Lm,LD,LC,if_pos ho];rw[e0,show(4096+((i:Int)*h.C.pw+0)-4096).toNat+o=(4096+((i:Int)*h.C.pw+(o:Int))-4096).toNat from by omega]
def Zby{h:Heap}(hp:Z02 h=La){i:Nat}(hi:i<h.P.length):(clrP h i).length=h.C.pw.toNat/\∀ o:Nat,o<h.C.pw.toNat->(clrP h i).getD o 0=if(Z1M h i).getD o M=La then 0 else Z3x h i o:=by
 have po:=Z0a hp;obtain⟨r1,r2⟩:=ZkO hp hi;constructor
 .rw[clrP,Z9m,r1]
 .intro o ho;rw[clrP,ZiL oq _ (Ln _),List.take_length,r2 o ho];have e0:=Zc2 hp hi (o:=0) oq;have e:(Z1M h i).getD o M=(Z07 h (Z0s h.P i:Nat)).1.any (λa=>Lb (a-(address h.C i 0).1<=(o:Int))&&Lb ((o:Int)<a-(address h.C i 0).1+Z3D h a)):=by
   unfold Z1M Z1z;rw[Lm,List.getElem?_map,List.getElem?_range ho];simp only[Xa,LL];congr 1;funext a
   unfold Z76;rw[e0,show a-(4096+((i:Int)*h.C.pw+0))=a-4096-i*h.C.pw from by omega]
  rw[e]
def Zfa{h:Heap}(hp:Z02 h=La){i:Nat}(hi:i<h.P.length)(e:fstW (clrP h i)<(clrP h i).length):Z2m h i (Z1M h i)=4096+i*h.C.pw+fstW (clrP h i):=by
 obtain⟨c1,c2⟩:=Zby hp hi;have hu:=Z5d h i;have hf:(Ll (Z1M h i).length).find? (badD h i (Z1M h i))=Ld (fstW (clrP h i)):=by
  rw[Lq];refine⟨?_,Lk.2 oq,λj hj=>?_⟩
  .have h1:=ZfC e;rw[show(M:Int)=0 from rfl,c2 _ oq]at h1;split at h1
   .exact absurd rfl h1
   .rename_i h2;simp only[badD,Lv,LA,decide_eq_true_eq];exact⟨by simpa using h2,h1⟩
  .have h1:=(ZbQ hj).2;rw[show(M:Int)=0 from rfl,c2 _ oq]at h1;simp only[badD,Bool.not_and,Bool.not_not,Bool.or_eq_true,LA,decide_eq_false_iff_not];split at h1
   .rename_i h2;exact .inl h2
   .exact .inr (λq=>q h1)
 unfold Z2m;rw[hf]
def ZnF{h:Heap}(hp:Z02 h=La){i:Nat}(hi:i<h.P.length)(e:¬ fstW (clrP h i)<(clrP h i).length):Z2m h i (Z1M h i)=0:=by
 obtain⟨c1,c2⟩:=Zby hp hi;have hu:=Z5d h i;have hf:(Ll (Z1M h i).length).find? (badD h i (Z1M h i))=Lh:=by
  rw[Lr];intro j hj;have hj:=Lk.1 hj;have h1:=(ZbQ (l:=clrP h i) (m:=j) oq).2;rw[show(M:Int)=0 from rfl,c2 _ oq]at h1;simp only[badD,Lv,LA,decide_eq_true_eq,not_and];intro h2 h3;rw[if_neg (by rw[h2];simp)]at h1;exact h3 h1
 unfold Z2m;rw[hf]
def Z6P{h:Heap}(hp:Z02 h=La){i:Nat}(hi:i<h.P.length):Z1R h i (Z07 h i).1=Lb (Z10 h i (Z07 h i).1≠0):=by
 unfold Z10 Z1R;cases hf:(Z07 h i).1.find? (Z17 h i)with
 | none=>simp
 | some x =>
  have hx:=L3 hf;have e:=Z6V hp (i:=i) oq;rw[e]at hx;obtain⟨y,hy,rfl⟩:=L2.1 hx;have h1:=(Z4J y hy).1;have h2:=(Zed hp hi).1;have:y.addr≠0:=by omega
  simp[this]
def find_congr{α:Type}{p q:α->Bool}:∀ {l:List α},(∀ x∈l,p x=q x)->l.find? p=l.find? q
 | [],_=>rfl
 | a::l,h=>by
  rw[LW,LW,h a pq,find_congr (l:=l) (λx hx=>h x (by simp[hx]))]
def find_range{l:List Int}{p:Int->Bool}:match (Ll l.length).find? (λi=>p (l.getD i M))with | Lh=>l.find? p=Lh | Ld i=>l.find? p=Ld (l.getD i M):=by
 split
 .rename_i hb;rw[Lr]at hb ⊢;intro x hx;obtain⟨i,hi,e⟩:=getD_mem_iff.1 hx;have:=hb i (Lk.2 hi);rwa [e]at this
 .rename_i i hb;obtain⟨h1,h2,h3⟩:=Lq.1 hb;have h2:=Lk.1 h2;cases hf:l.find? p with
  | none =>
   have:=Lr.1 hf (l.getD i M) (getD_mem_iff.2 ⟨i,h2,rfl⟩);exact absurd h1 this
  | some x =>
   obtain⟨n,k1,k2,k3,k4⟩:=Z3C hf;have hn:n=i:=by
    rcases Nat.lt_trichotomy n i with q | q | q
    .have:=h3 n q;rw[k2,k3]at this;cases this
    .exact q
    .have:=k4 i q;rw[h1]at this;cases this
   subst hn;rw[k2]
def Z8r{h:Heap}{a:Int}(ha:a∈(Z03 h).1):(atH h a).2=0/\(atH h a).1.K≠0:=by
 by_cases e:(allW h).2=0
 .rw[ZiN h e]at ha;obtain⟨x,hx,rfl⟩:=L2.1 ha;obtain⟨h1,h2⟩:=List.mem_filter.1 hx;obtain⟨h3,h4⟩:=ZeO x h1;refine⟨h4, ?_⟩;rw[<- h3];simpa[Z2l]using h2
 .rw[Zga h e]at ha;simp at ha
def Z6j(hd:Header):∀ n:Nat,Z0P hd n=((Ll n).filter (λk:Nat=>Z0e hd k)).map (λk:Nat=>(k:Int))
 | 0=>rfl
 | n+1=>by
  rw[Z0P,List.range_succ,List.filter_append,Lu,<- Z6j hd n];by_cases h:Z0e hd (n:Int)=La
  .rw[if_pos h];simp[h]
  .rw[if_neg h];simp[h]
def ptrF(h:Heap)(all:List Int)(a:Int):Option Nat:=(Ll (Z0t h a).1.length).find? (Z8o (getH h a).1 (Z0t h a).1 all)
def ZoW{h:Heap}{a:Int}(e:(atH h a).2=0)(hk:(atH h a).1.K≠0)(all:List Int):apF h all a=(ptrF h all a).map (λk:Nat=>(k:Int)):=by
 have i1:=Zci e;have i2:=(Zg4 e).1;have g1:getH h a=atH h a:=by
  unfold getH;rw[if_pos i2,if_neg oq,if_neg (λq=>hk q.2)]
 have g2:=Z3A (h:=h) (a:=a) (by rw[g1];exact e);rw[g1]at g2;have hv:=g2.2.2.2.2.2.2.1;have hl:=g2.2.2.2.2.2.2.2.2.2;have f1:(Z0t h a).1=(h.W.drop (a+1-4096).toNat).take (atH h a).1.length.toNat:=by
  unfold Z0t;rw[g1,if_pos e,Z1e,if_neg oq,if_pos oq]
 have fl:(Z0t h a).1.length=(atH h a).1.length.toNat:=by
  rw[f1,Lt,LF];omega
 have fg:∀ k:Nat,k<(atH h a).1.length.toNat->(Z0t h a).1.getD k M=fdV h a k:=by
  intro k hk;unfold fdV loadA;rw[if_pos oq,f1];simp only[Lm,LD,LC,if_pos hk];rw[show(a+1-4096).toNat+k=(a+1+(k:Int)-4096).toNat from by omega];rfl
 unfold apF ptrF Z04;rw[if_pos hv,Z6j,List.find?_map,List.find?_filter,fl,g1];congr 1;refine find_congr λk hk=>?_;have hk:=Lk.1 hk;rw[Z8o,fg k hk];simp only[Function.comp,pbad];cases Z0e (atH h a).1 (k:Int)<;>simp
def Zpg(h:Heap):apW h=Z0J h (Z03 h).1:=by
 have hr:=find_range (l:=(Z03 h).1) (p:=λa=>(ptrF h (Z03 h).1 a).isSome);have hc:(Z03 h).1.find? (λa=>(apF h (Z03 h).1 a).isSome)=(Z03 h).1.find? (λa=>(ptrF h (Z03 h).1 a).isSome):=find_congr λa ha=>by
  rw[ZoW (Z8r ha).1 (Z8r ha).2,Option.isSome_map]
 unfold apW apAt Z0J;rw[hc];change match (Ll (Z03 h).1.length).find? (λi=>(Z24 h (Z03 h).1 i).isSome)with | Lh=>_ | Ld i=>_ at hr
 split at hr
 .rename_i hb;rw[hr,hb];rfl
 .rename_i i hb;have h1:=(Lq.1 hb)
  have hm:(Z03 h).1.getD i M∈(Z03 h).1:=getD_mem_iff.2 ⟨i,Lk.1 h1.2.1,rfl⟩;obtain⟨k,hk⟩:=L9.1 h1.1;have hk':ptrF h (Z03 h).1 ((Z03 h).1.getD i M)=Ld k:=hk;have i1:=Zci (Z8r hm).1;rw[hr,hb];simp only[hk,ZoW (Z8r hm).1 (Z8r hm).2,hk',Xa,LL];rw[if_neg oq]
def apgL(h:Heap)(i:Nat):Tg:=⟨tm 64 [(1,.pt 8001 0 0),(2,.pt 8002 0 0),(12,Z0y h.P),(13,int h.P.length),(14,int i)],[(8002,.box 223 [int 0,int 0,u64 0]),(8001,.box 28 h.cells)],60⟩
def apgE(f:Finding):Tg:=⟨tm 64 [(2,.pt 8002 0 0)],[(8002,.box 223 [int f.fault,int f.page,u64 f.addr])],64⟩
section
variable (h:Heap) (i:Nat) (hw:WOk h.W) (hp:Z02 h=La) (hi:i<h.P.length)
include hw hp hi
theorem Zpy(e:Z2m h i (Z1M h i)=0):idxW (clrP h i)=-1:=by
 by_cases hc:fstW (clrP h i)<(clrP h i).length
 .have h1:=Zfa hp hi hc;have h2:=(Zed hp hi).1;omega
 .exact if_neg hc
theorem Zo1(e:¬ Z2m h i (Z1M h i)=0):0<=idxW (clrP h i)/\idxW (clrP h i)<=64/\Z2m h i (Z1M h i)=(address h.C i 0).1+idxW (clrP h i):=by
 have po:=Z0a hp;by_cases hc:fstW (clrP h i)<(clrP h i).length
 .have h1:=Zfa hp hi hc;have h2:idxW (clrP h i)=fstW (clrP h i):=if_pos hc;have h3:=Zc2 hp hi (o:=0) oq;have h4:=(Zby hp hi).1;rw[h1,h2,h3];omega
 .exact absurd (ZnF hp hi hc) e
theorem Zfw(n1:(h.P.getD i M).K=0\/(h.P.getD i M).S=h.S)(n2:(Z07 h (i:Int)).2=0)(n3:Z10 h (i:Int) (Z07 h (i:Int)).1=0)(n4:Z2m h i (Z1M h i)=0):CP (rndF f206 0) (apgL h i).st .nrm (apgL h (i+1)).st:=by
 have po:=Z0a hp;have hn:=Z2K h (i:Int);have hr:=Z2B hp (i:Int);have q3:=Z6P hp hi;rw[n3]at q3;have q4:=Zpy h i hw hp hi n4;simp only[ne_eq,not_true_eq_false,decide_false]at q3;rcases n1 with n1 | n1
 .exact sF [] [] (Fh 48 [.br Lc] (Fh 58 [.br Lc] (Ftb 15 (Lb ((i:Int)<(h.P.length:Int))) (Fek 17 Page.dv h.P (↑i) i (Ffb 28 ((h.P.getD i M).K != 0&&(h.P.getD i M).S != h.S) (Fc 34 (@Z3l h ((i:Int)) aa oq) (Ffb 38 ((Z07 h (i:Int)).2 != 0) (Fc 45 (@Z3q h ((i:Int)) ((Z07 h (i:Int)).1) aa oq oq oq aa) (Fa ‹Z1R h (i:Int) (Z07 h (i:Int)).1=Lc› (Fc 55 (@Z6G h i aa aa aa) (Fb (Lb (0<=idxW (clrP h i))=Lc) (Fx 62 i Fz))))))))))))
 .exact sF [] [] (Fh 48 [.br Lc] (Fh 58 [.br Lc] (Ftb 15 (Lb ((i:Int)<(h.P.length:Int))) (Fek 17 Page.dv h.P (↑i) i (Ffb 28 ((h.P.getD i M).K != 0&&(h.P.getD i M).S != h.S) (Fc 34 (@Z3l h ((i:Int)) aa oq) (Ffb 38 ((Z07 h (i:Int)).2 != 0) (Fc 45 (@Z3q h ((i:Int)) ((Z07 h (i:Int)).1) aa oq oq oq aa) (Fa ‹Z1R h (i:Int) (Z07 h (i:Int)).1=Lc› (Fc 55 (@Z6G h i aa aa aa) (Fb (Lb (0<=idxW (clrP h i))=Lc) (Fx 62 i Fz))))))))))))
theorem Zq6(n1:¬ (h.P.getD i M).K=0/\¬ (h.P.getD i M).S=h.S):CP (rndF f206 0) (apgL h i).st .ret (apgE ⟨2,i,0⟩).st:=by
 have po:=Z0a hp;obtain⟨n1,n2⟩:=n1;exact sF [] [] (Ftb 15 (Lb ((i:Int)<(h.P.length:Int))) (Fek 17 Page.dv h.P (↑i) i (Ftb 28 ((h.P.getD i M).K != 0&&(h.P.getD i M).S != h.S) Fz)))
theorem Zqf(n1:(h.P.getD i M).K=0\/(h.P.getD i M).S=h.S)(n2:¬ (Z07 h (i:Int)).2=0):CP (rndF f206 0) (apgL h i).st .ret (apgE ⟨3,i,0⟩).st:=by
 have po:=Z0a hp;rcases n1 with n1 | n1
 .exact sF [] [] (Ftb 15 (Lb ((i:Int)<(h.P.length:Int))) (Fek 17 Page.dv h.P (↑i) i (Ffb 28 ((h.P.getD i M).K != 0&&(h.P.getD i M).S != h.S) (Fc 34 (@Z3l h ((i:Int)) aa oq) (Ftb 38 ((Z07 h (i:Int)).2 != 0) Fz)))))
 .exact sF [] [] (Ftb 15 (Lb ((i:Int)<(h.P.length:Int))) (Fek 17 Page.dv h.P (↑i) i (Ffb 28 ((h.P.getD i M).K != 0&&(h.P.getD i M).S != h.S) (Fc 34 (@Z3l h ((i:Int)) aa oq) (Ftb 38 ((Z07 h (i:Int)).2 != 0) Fz)))))
theorem ZpW(n1:(h.P.getD i M).K=0\/(h.P.getD i M).S=h.S)(n2:(Z07 h (i:Int)).2=0)(n3:¬ Z10 h (i:Int) (Z07 h (i:Int)).1=0):CP (rndF f206 0) (apgL h i).st .ret (apgE ⟨5,i,Z10 h (i:Int) (Z07 h (i:Int)).1⟩).st:=by
 have po:=Z0a hp;have hn:=Z2K h (i:Int);have hr:=Z2B hp (i:Int);have q3:Z1R h i (Z07 h i).1=La:=by rw[Z6P hp hi];simpa using n3
 rcases n1 with n1 | n1
 .exact sF [] [] (Fh 48 [.br La] (Ftb 15 (Lb ((i:Int)<(h.P.length:Int))) (Fek 17 Page.dv h.P (↑i) i (Ffb 28 ((h.P.getD i M).K != 0&&(h.P.getD i M).S != h.S) (Fc 34 (@Z3l h ((i:Int)) aa oq) (Ffb 38 ((Z07 h (i:Int)).2 != 0) (Fc 45 (@Z3q h ((i:Int)) ((Z07 h (i:Int)).1) aa oq oq oq aa) (Fa ‹Z1R h (i:Int) (Z07 h (i:Int)).1=La› Fz))))))))
 .exact sF [] [] (Fh 48 [.br La] (Ftb 15 (Lb ((i:Int)<(h.P.length:Int))) (Fek 17 Page.dv h.P (↑i) i (Ffb 28 ((h.P.getD i M).K != 0&&(h.P.getD i M).S != h.S) (Fc 34 (@Z3l h ((i:Int)) aa oq) (Ffb 38 ((Z07 h (i:Int)).2 != 0) (Fc 45 (@Z3q h ((i:Int)) ((Z07 h (i:Int)).1) aa oq oq oq aa) (Fa ‹Z1R h (i:Int) (Z07 h (i:Int)).1=La› Fz))))))))
theorem Zq1(n1:(h.P.getD i M).K=0\/(h.P.getD i M).S=h.S)(n2:(Z07 h (i:Int)).2=0)(n3:Z10 h (i:Int) (Z07 h (i:Int)).1=0)(n4:¬ Z2m h i (Z1M h i)=0):CP (rndF f206 0) (apgL h i).st .ret (apgE ⟨4,i,Z2m h i (Z1M h i)⟩).st:=by
 have po:=Z0a hp;have hn:=Z2K h (i:Int);have hr:=Z2B hp (i:Int);have q3:=Z6P hp hi;rw[n3]at q3;simp only[ne_eq,not_true_eq_false,decide_false]at q3;obtain⟨q4,q5,q6⟩:=Zo1 h i hw hp hi n4;have q7:max (idxW (clrP h i)) 0=idxW (clrP h i):=by omega
 rw[q6];rcases n1 with n1 | n1
 .exact sF [] (fO 6) (Fh 48 [.br Lc] (Fh 58 [.br La] (Ftb 15 (Lb ((i:Int)<(h.P.length:Int))) (Fek 17 Page.dv h.P (↑i) i (Ffb 28 ((h.P.getD i M).K != 0&&(h.P.getD i M).S != h.S) (Fc 34 (@Z3l h ((i:Int)) aa oq) (Ffb 38 ((Z07 h (i:Int)).2 != 0) (Fc 45 (@Z3q h ((i:Int)) ((Z07 h (i:Int)).1) aa oq oq oq aa) (Fa ‹Z1R h (i:Int) (Z07 h (i:Int)).1=Lc› (Fc 55 (@Z6G h i aa aa aa) (Fb (Lb (0<=idxW (clrP h i))=La) (Fr (223:Int) (Fr (4:Int) (Fr (i:Int) (Fa (by rw[q7]:(address h.C (i:Int) 0).1+max (idxW (clrP h i)) 0=(Finding.mk 4 (i:Int) ((address h.C (i:Int) 0).1+idxW (clrP h i))).addr) Fz)))))))))))))))
 .exact sF [] (fO 6) (Fh 48 [.br Lc] (Fh 58 [.br La] (Ftb 15 (Lb ((i:Int)<(h.P.length:Int))) (Fek 17 Page.dv h.P (↑i) i (Ffb 28 ((h.P.getD i M).K != 0&&(h.P.getD i M).S != h.S) (Fc 34 (@Z3l h ((i:Int)) aa oq) (Ffb 38 ((Z07 h (i:Int)).2 != 0) (Fc 45 (@Z3q h ((i:Int)) ((Z07 h (i:Int)).1) aa oq oq oq aa) (Fa ‹Z1R h (i:Int) (Z07 h (i:Int)).1=Lc› (Fc 55 (@Z6G h i aa aa aa) (Fb (Lb (0<=idxW (clrP h i))=La) (Fr (223:Int) (Fr (4:Int) (Fr (i:Int) (Fa (by rw[q7]:(address h.C (i:Int) 0).1+max (idxW (clrP h i)) 0=(Finding.mk 4 (i:Int) ((address h.C (i:Int) 0).1+idxW (clrP h i))).addr) Fz)))))))))))))))
end
def Zps(h:Heap):CP (rndF f206 0) (apgL h h.P.length).st (.ext 0) (apgE ⟨0,0,0⟩).st:=by
 exact sF [] [] (Ffb 15 (Lb ((h.P.length:Int)<(h.P.length:Int))) Fz)
def apgV(h:Heap):Finding:=match Z2C h with | Ld i=>pageF h i | Lh=>⟨0,0,0⟩
def Zfz{h:Heap}{i:Nat}(e:(pageF h i).fault=0):((h.P.getD i M).K=0\/(h.P.getD i M).S=h.S)/\(Z07 h (i:Int)).2=0/\Z10 h (i:Int) (Z07 h (i:Int)).1=0/\Z2m h i (Z1M h i)=0:=by
 unfold pageF at e;split at e
 .simp at e
 .rename_i h1;split at e
  .simp at e
  .rename_i h2;split at e
   .simp at e
   .rename_i h3;split at e
    .simp at e
    .rename_i h4;refine⟨?_,Lo.1 h2,Lo.1 h3,Lo.1 h4⟩;by_cases q:(h.P.getD i M).K=0
     .exact .inl q
     .refine .inr (Lo.1 λq2=>h1 ⟨q,q2⟩)
def ZlU(h:Heap)(i:Nat)(hw:WOk h.W)(hp:Z02 h=La)(hi:i<h.P.length)(e:(pageF h i).fault≠0):CP (rndF f206 0) (apgL h i).st .ret (apgE (pageF h i)).st:=by
 unfold pageF at e ⊢;split
 .rename_i h1;exact Zq6 h i hw hp hi h1
 .rename_i h1;have n1:(h.P.getD i M).K=0\/(h.P.getD i M).S=h.S:=by
   by_cases q:(h.P.getD i M).K=0
   .exact .inl q
   .exact .inr (Lo.1 λq2=>h1 ⟨q,q2⟩)
  split
  .rename_i h2;exact Zqf h i hw hp hi n1 h2
  .rename_i h2;split
   .rename_i h3;exact ZpW h i hw hp hi n1 (Lo.1 h2) h3
   .rename_i h3;split
    .rename_i h4;exact Zq1 h i hw hp hi n1 (Lo.1 h2) (Lo.1 h3) h4
    .rename_i h4;rw[if_neg h1,if_neg h2,if_neg h3,if_neg h4]at e;exact absurd rfl e
def ZmO(h:Heap)(hw:WOk h.W)(hp:Z02 h=La)(hf:Z2C h=Lh):CP (blkF f206 0) (apgL h 0).st .nrm (Tg.st ⟨tm 64 [(2,.pt 8002 0 0)],[(8002,.box 223 [int 0,int 0,u64 0])],64⟩):=by
 refine Z08 (S:=λk=>(apgL h k).st) h.P.length kr (λk hk=>?_) (Zps h);have e:=Lr.1 hf k (Lk.2 hk);obtain⟨n1,n2,n3,n4⟩:=Zfz (h:=h) (i:=k) (by simpa using e);exact Zfw h k hw hp hk n1 n2 n3 n4
def ZlK(h:Heap)(i:Nat)(hw:WOk h.W)(hp:Z02 h=La)(hf:Z2C h=Ld i):CP (blkF f206 0) (Tg.st ⟨tm 64 [(1,.pt 8001 0 0),(2,.pt 8002 0 0),(12,Z0y h.P),(13,int h.P.length),(14,int 0)],[(8002,.box 223 [int 0,int 0,u64 0]),(8001,.box 28 h.cells)],60⟩) .ret (Tg.st ⟨tm 64 [(2,.pt 8002 0 0)],[(8002,.box 223 [int (pageF h i).fault,int (pageF h i).page,u64 (pageF h i).addr])],64⟩):=by
 obtain⟨h1,h2,h3⟩:=Lq.1 hf;have h2:=Lk.1 h2;refine Z0v (S:=λk=>(apgL h k).st) i kr (λk hk=>?_) (ZlU h i hw hp h2 (by simpa using h1));have e:=h3 k hk;obtain⟨n1,n2,n3,n4⟩:=Zfz (h:=h) (i:=k) (by simpa using e);exact Zfw h k hw hp oq n1 n2 n3 n4
def Z5k(h:Heap)(hw:WOk h.W)(hp:Z02 h=La):GP 206 [h.av] La (apgV h).av []:=by
 have po:=Z0a hp;cases hf:Z2C h with
 | none =>
  have e7:apgV h=⟨0,0,0⟩:=by simp only[apgV,hf]
  rw[e7];exact gF [] func206 [] (Fl 13 Page.dv h.P (Fu (@ZmO h aa aa aa) Fz))
 | some i =>
  have e7:apgV h=pageF h i:=by simp only[apgV,hf]
  rw[e7];exact gF [] func206 [] (Fl 13 Page.dv h.P (Fu (@ZlK h i aa aa aa) Fz))
def ZaV(h:Heap)(hw:WOk h.W)(hp:Z02 h=Lc):GP 171 [h.av] La (Finding.av ⟨1,0,0⟩) []:=by
 exact gF [] func171 [] (Fc 9 (@Z0n h) (Ftb 10 (!Z02 h) Fz))
def Z9E(h:Heap)(hw:WOk h.W)(hp:Z02 h=La)(i:Nat)(hb:Z2C h=Ld i):GP 171 [h.av] La (pageF h i).av []:=by
 have po:=Z0a hp;have e7:apgV h=pageF h i:=by simp only[apgV,hb]
 have h1:¬ (pageF h i).fault=0:=by simpa using (Lq.1 hb).1
 rw[<- e7]at h1 ⊢;exact gF [] func171 [] (Fc 9 (@Z0n h) (Ffb 10 (!Z02 h) (Fc 13 (@Z5k h aa aa) (Ftb 16 (!((apgV h).fault==0&&((apgV h).page==0&&(apgV h).addr==0))) Fz))))
def ZbM(h:Heap)(hw:WOk h.W)(hp:Z02 h=La)(hb:Z2C h=Lh)(hq:¬ (apW h).fault=0):GP 171 [h.av] La (apW h).av []:=by
 have po:=Z0a hp;have e7:apgV h=⟨0,0,0⟩:=by simp only[apgV,hb]
 have q1:(apgV h).fault=0:=by rw[e7]
 have q2:(apgV h).page=0:=by rw[e7]
 have q3:(apgV h).addr=0:=by rw[e7]
 exact gF [] func171 [] (Fc 9 (@Z0n h) (Ffb 10 (!Z02 h) (Fc 13 (@Z5k h aa aa) (Ffb 16 (!((apgV h).fault==0&&((apgV h).page==0&&(apgV h).addr==0))) (Fc 19 (@Z4i h aa oq) (Ftb 22 (!((apW h).fault==0&&((apW h).page==0&&(apW h).addr==0))) Fz))))))
def acrL(h:Heap)(i:Nat):Tg:=⟨tm 50 [(1,.pt 8001 0 0),(2,.pt 8002 0 0),(5,int (Z0C h.P i)),(25,Z0y h.P),(26,int h.P.length),(27,int i)],[(8002,.box 223 [int 0,int 0,u64 0]),(8001,.box 28 h.cells)],60⟩
def Zmd(h:Heap)(i:Nat)(hp:Z02 h=La)(hi:i<h.P.length):CP (rndF f171 0) (acrL h i).st .nrm (acrL h (i+1)).st:=by
 have po:=Z0a hp;have:=Z2G h.P i;by_cases h1:(h.P.getD i M).K=1
 .by_cases h2:0<(h.P.getD i M).N
  .have e:Z0C h.P (i+1)=Z0C h.P i+1:=by rw[Z0C,if_pos ⟨h1,h2⟩]
   rw[acrL,acrL,e];exact sF [] [] (Ftb 28 (Lb ((i:Int)<(h.P.length:Int))) (Fek 29 Page.dv h.P (↑i) i (Ftb 38 ((h.P.getD i M).K==1&&Lb (0<(h.P.getD i M).N)) (Fw 40 ((↑(Z0C h.P i):Int)+1) (↑(Z0C h.P i+1):Int) (Fx 41 i Fz)))))
  .have e:Z0C h.P (i+1)=Z0C h.P i:=by rw[Z0C,if_neg (λq=>h2 q.2)];rfl
   rw[acrL,acrL,e];exact sF [] [] (Ftb 28 (Lb ((i:Int)<(h.P.length:Int))) (Fek 29 Page.dv h.P (↑i) i (Ffb 38 ((h.P.getD i M).K==1&&Lb (0<(h.P.getD i M).N)) (Fx 41 i Fz))))
 .have e:Z0C h.P (i+1)=Z0C h.P i:=by rw[Z0C,if_neg (λq=>h1 q.1)];rfl
  rw[acrL,acrL,e];exact sF [] [] (Ftb 28 (Lb ((i:Int)<(h.P.length:Int))) (Fek 29 Page.dv h.P (↑i) i (Ffb 38 ((h.P.getD i M).K==1&&Lb (0<(h.P.getD i M).N)) (Fx 41 i Fz))))
def ZpB(h:Heap):CP (rndF f171 0) (acrL h h.P.length).st (.ext 0) (Tg.st ⟨tm 50 [(1,.pt 8001 0 0),(2,.pt 8002 0 0),(5,int (Z0C h.P h.P.length))],[(8002,.box 223 [int 0,int 0,u64 0]),(8001,.box 28 h.cells)],64⟩):=by
 exact sF [] [] (Ffb 28 (Lb ((h.P.length:Int)<(h.P.length:Int))) Fz)
def ZjA(h:Heap)(hp:Z02 h=La)  := Z08 (S:=λi=>(acrL h i).st) h.P.length (by kernel_rfl) (λi hi=>Zmd h i hp hi) (ZpB h)
def Z8c(h:Heap)(hw:WOk h.W)(hp:Z02 h=La)(hb:Z2C h=Lh)(hq:(apW h).fault=0)(hc:h.C.pg/4<(Z0C h.P h.P.length:Nat)):GP 171 [h.av] La (Finding.av ⟨7,0,0⟩) []:=by
 have po:=Z0a hp;have cl:=Z2G h.P h.P.length;have e7:apgV h=⟨0,0,0⟩:=by simp only[apgV,hb]
 have q1:(apgV h).fault=0:=by rw[e7]
 have q2:(apgV h).page=0:=by rw[e7]
 have q3:(apgV h).addr=0:=by rw[e7]
 have e8:apW h=⟨0,0,0⟩:=by
  unfold apW at hq ⊢;split at hq
  .rename_i h1;rw[if_pos h1]
  .simp at hq
 have q4:(apW h).fault=0:=by rw[e8]
 have q5:(apW h).page=0:=by rw[e8]
 have q6:(apW h).addr=0:=by rw[e8]
 exact gF [] func171 [] (Fc 9 (@Z0n h) (Ffb 10 (!Z02 h) (Fc 13 (@Z5k h aa aa) (Ffb 16 (!((apgV h).fault==0&&((apgV h).page==0&&(apgV h).addr==0))) (Fc 19 (@Z4i h aa oq) (Ffb 22 (!((apW h).fault==0&&((apW h).page==0&&(apW h).addr==0))) (Fl 26 Page.dv h.P (Fu (@ZjA h aa) (Fg 46 (by rw[LV oq,wrapI' oq oq]:IntKind.i64.wrap (h.C.pg.tdiv 4)=h.C.pg/4) (Fa (by decide:(4:Int)≠0) (Ftb 47 (Lb (h.C.pg/4<(↑(Z0C h.P h.P.length):Int))) Fz)))))))))))
def Z9G(h:Heap)(hw:WOk h.W)(hp:Z02 h=La)(hb:Z2C h=Lh)(hq:(apW h).fault=0)(hc:¬ h.C.pg/4<(Z0C h.P h.P.length:Nat)):GP 171 [h.av] La (Finding.av ⟨0,0,0⟩) []:=by
 have po:=Z0a hp;have cl:=Z2G h.P h.P.length;have e7:apgV h=⟨0,0,0⟩:=by simp only[apgV,hb]
 have q1:(apgV h).fault=0:=by rw[e7]
 have q2:(apgV h).page=0:=by rw[e7]
 have q3:(apgV h).addr=0:=by rw[e7]
 have e8:apW h=⟨0,0,0⟩:=by
  unfold apW at hq ⊢;split at hq
  .rename_i h1;rw[if_pos h1]
  .simp at hq
 have q4:(apW h).fault=0:=by rw[e8]
 have q5:(apW h).page=0:=by rw[e8]
 have q6:(apW h).addr=0:=by rw[e8]
 exact gF [] func171 [] (Fc 9 (@Z0n h) (Ffb 10 (!Z02 h) (Fc 13 (@Z5k h aa aa) (Ffb 16 (!((apgV h).fault==0&&((apgV h).page==0&&(apgV h).addr==0))) (Fc 19 (@Z4i h aa oq) (Ffb 22 (!((apW h).fault==0&&((apW h).page==0&&(apW h).addr==0))) (Fl 26 Page.dv h.P (Fu (@ZjA h aa) (Fg 46 (by rw[LV oq,wrapI' oq oq]:IntKind.i64.wrap (h.C.pg.tdiv 4)=h.C.pg/4) (Fa (by decide:(4:Int)≠0) (Ffb 47 (Lb (h.C.pg/4<(↑(Z0C h.P h.P.length):Int))) Fz)))))))))))
def ZgQ(h:Heap)(hw:WOk h.W):GP 171 [h.av] La (Z0r h).av []:=by
 have e7:=Zpg h;unfold Z0r;rw[<- e7];by_cases hp:Z02 h=La
 .rw[if_pos hp];cases hb:Z2C h with
  | some i=>exact Z9E h hw hp i hb
  | none =>
   by_cases hq:(apW h).fault=0
   .simp only[hq,ne_eq,not_true_eq_false,if_false];by_cases hc:h.C.pg/4<(Z0C h.P h.P.length:Nat)
    .rw[if_pos hc];exact Z8c h hw hp hb hq hc
    .rw[if_neg hc];exact Z9G h hw hp hb hq hc
   .simp only[ne_eq,hq,not_false_eq_true,if_true];exact ZbM h hw hp hb hq
 .rw[if_neg hp];exact ZaV h hw (by simpa using hp)
def Zq4(h:Heap):((Z0r h).fault==0&&((Z0r h).page==0&&(Z0r h).addr==0))=Lb (Z0r h=⟨0,0,0⟩):=by
 cases Z0r h with
 | mk a b c=>by_cases h1:a=0<;>by_cases h2:b=0<;>by_cases h3:c=0<;>simp[h1,h2,h3]
def ZcE(h:Heap)(hw:WOk h.W):GP 122 [h.av] La (bool (Lb (Z0r h=⟨0,0,0⟩))) []:=by
 have e9:=Zq4 h;exact gF [] func122 [La] (Fc 4 (@ZgQ h aa) (Fa (by exact e9:((Z0r h).fault==0&&((Z0r h).page==0&&(Z0r h).addr==0))=Lb (Z0r h=Finding.mk 0 0 0)) Fz))
def rbad(all:List Int)(r:Int):Bool:=(r != 0)&&!decide (r∈all)
def Zkg(all:List Int):AV:=.fn 126 [.rp [.sl 1 (all.map wdv)] 0]
def ZmC(all:List Int)(r:Int)(ha:all.length<=1048576)(hs:all.Pairwise (· < ·)):GP 126 [u64 r,.rp [.sl 1 (all.map wdv)] 0] La (bool (rbad all r)) []:=by
 by_cases h1:r=0
 .have e:rbad all r=Lc:=by simp[rbad,h1]
  rw[e];exact gF [] func126 (fO 2) (Fc 9 (@bsearch all r aa aa) (Fa ‹(r != 0&&!decide (r∈all))=Lc› Fz))
 .by_cases h2:r∈all
  .have e:rbad all r=Lc:=by simp[rbad,h2]
   rw[e];exact gF [] func126 (fO 2) (Fc 9 (@bsearch all r aa aa) (Fa ‹(r != 0&&!decide (r∈all))=Lc› Fz))
  .have e:rbad all r=La:=by simp[rbad,h1,h2]
   rw[e];exact gF [] func126 (fO 2) (Fc 9 (@bsearch all r aa aa) (Fa ‹(r != 0&&!decide (r∈all))=La› Fz))
def fstR(all l:List Int):Nat:=(l.takeWhile λr=>!rbad all r).length
def Zbc{all l:List Int}{m:Nat}(h:m<fstR all l):m<l.length/\rbad all (l.getD m M)=Lc:=by
 obtain⟨h1,h2⟩:=Zhw _ _ _ h;refine⟨h1, ?_⟩;rw[Lm,Lw h1];simpa using h2
def Zfx{all l:List Int}(h:fstR all l<l.length):rbad all (l.getD (fstR all l) M)=La:=by
 have h2:=ZaE (λr=>!rbad all r) l h;have h3:l.getD (fstR all l) M=l[(l.takeWhile λr=>!rbad all r).length]:=by
  rw[Lm,Lw h];rfl
 rw[h3];simpa using h2
def idxR(all l:List Int):Int:=if fstR all l<l.length then fstR all l else -1
def Zbr(all l:List Int)(i:Nat):Tg:=⟨tm 19 [(0,Z01 l),(1,Zkg all),(4,int 0),(7,int l.length),(8,int i)],[],60⟩
section
variable (all l:List Int) (i:Nat) (hl:l.length<=1048576) (ha:all.length<=1048576) (hs:all.Pairwise (· < ·)) (hi:i<l.length)
include hl ha hs hi
theorem Zcr(e:rbad all (l.getD i M)=Lc):CP (rndF f172 0) (Zbr all l i).st .nrm (Zbr all l (i+1)).st:=by
 unfold Zbr Zkg;exact sF [] [] (Fh 16 [.call La (Sx.bool (rbad all (l.getD i M))) [],.br Lc] (Ftb 9 (Lb ((i:Int)<(l.length:Int))) (Fek 14 wdv l (↑i) i (Fa (@ZmC all (l.getD i M) aa aa) (Fa ‹rbad all (l.getD i M)=Lc› (Fx 18 i Fz))))))
theorem Zih(e:rbad all (l.getD i M)=La):CP (rndF f172 0) (Zbr all l i).st .ret (Tg.st ⟨tm 19 [(4,int i)],[],60⟩):=by
 unfold Zbr Zkg;exact sF [] [] (Fh 16 [.call La (Sx.bool (rbad all (l.getD i M))) [],.br La] (Ftb 9 (Lb ((i:Int)<(l.length:Int))) (Fek 14 wdv l (↑i) i (Fa (@ZmC all (l.getD i M) aa aa) (Fa ‹rbad all (l.getD i M)=La› Fz)))))
end
def ZmW(all l:List Int):CP (rndF f172 0) (Zbr all l l.length).st (.ext 0) (Tg.st ⟨tm 19 [(4,int 0)],[],60⟩):=by
 unfold Zbr Zkg;exact sF [] [] (Ffb 9 (Lb ((l.length:Int)<(l.length:Int))) Fz)
def ZlP(all l:List Int)(hl:l.length<=1048576)(ha:all.length<=1048576)(hs:all.Pairwise (· < ·))(h:¬ fstR all l<l.length)  := Z08 (S:=λj=>(Zbr all l j).st) l.length (by kernel_rfl) (λj hj=>Zcr all l j hl ha hs hj (Zbc (by omega)).2) (ZmW all l)
def Zio(all l:List Int)(hl:l.length<=1048576)(ha:all.length<=1048576)(hs:all.Pairwise (· < ·))(h:fstR all l<l.length)  := Z0v (S:=λj=>(Zbr all l j).st) (fstR all l) (by kernel_rfl) (λj hj=>Zcr all l j hl ha hs (by omega) (Zbc hj).2) (Zih all l (fstR all l) hl ha hs h (Zfx h))
def ZoN(all l:List Int)(hl:l.length<=1048576)(ha:all.length<=1048576)(hs:all.Pairwise (· < ·)):GP 172 [Z01 l,.fn 126 [.rp [.sl 1 (all.map wdv)] 0]] La (int (idxR all l)) []:=by
 by_cases h:fstR all l<l.length
 .have e7:idxR all l=fstR all l:=if_pos h;rw[e7];exact gF [] func172 [] (Fl 7 wdv l (Fu (@Zio all l aa aa aa aa) Fz))
 .have e7:idxR all l=-1:=if_neg h;rw[e7];exact gF [] func172 [] (Fl 7 wdv l (Fu (@ZlP all l aa aa aa aa) Fz))
def ZiB(all l:List Int)(hl:l.length<=1048576)(ha:all.length<=1048576)(hs:all.Pairwise (· < ·)):GP 125 [Z01 l,.fn 126 [.rp [.sl 1 (all.map wdv)] 0]] La (bool (Lb (0<=idxR all l))) []:=by
 exact gF [] func125 [] (Fc 7 (@ZoN all l aa aa aa) Fz)
def Zhk(h:Heap)(refs:List Int)(hw:WOk h.W)(hg:¬ Z0r h=⟨0,0,0⟩):GP 74 [h.av,Z01 refs] La (bool Lc) []:=by
 exact gF [] func74 [] (Fc 8 (@ZcE h aa) (Ftb 9 (!decide (Z0r h=Finding.mk 0 0 0)) Fz))
def ZgC(h:Heap)(refs:List Int)(hw:WOk h.W)(hg:Z0r h=⟨0,0,0⟩):Zcx prog 4 (bdyF f74) (Tg.st ⟨tm 19 [(0,h.av),(1,Z01 refs)],[],1⟩) (Tg.st ⟨tm 19 [(1,Z01 refs),(5,.pt 24005 0 0)],[(24005,.box 25 [Z01 (Z03 h).1])],20⟩):=by
 refine Z4u [((8:Nat),[Hint.call La (Sx.bool (Lb (Z0r h=Finding.mk (0:Int) (0:Int) (0:Int)))) []]),((9:Nat),[Hint.br Lc]),((12:Nat),[Hint.call La (AV.tu [Z01 (Z03 h).1,int (Z03 h).2]) []])] [] [] (φ:=GP 122 [h.av] La (Sx.bool (Lb (Z0r h=Finding.mk (0:Int) (0:Int) (0:Int)))) []/\(!decide (Z0r h=Finding.mk (0:Int) (0:Int) (0:Int)))=Lc/\Lc=Lc/\GP 107 [h.av] La (AV.tu [Z01 (Z03 h).1,int (Z03 h).2]) []) ?_ kr kr kr kr;exact⟨(@ZcE (h) aa),(by(simp only[bs];omega)),rfl,(@Z2x (h) aa)⟩
def Znn(h:Heap)(refs:List Int):((Ll refs.length).find? (rfsB refs (Z03 h).1)).isNone = !decide (0<=idxR (Z03 h).1 refs):=by
 have hb:∀ i,rfsB refs (Z03 h).1 i=rbad (Z03 h).1 (refs.getD i M):=by
  intro i;unfold rfsB rbad;generalize refs.getD i M=r;by_cases h1:r=0<;>by_cases h2:r∈(Z03 h).1<;>simp[h1,h2]
 by_cases hc:fstR (Z03 h).1 refs<refs.length
 .have e1:idxR (Z03 h).1 refs=fstR (Z03 h).1 refs:=if_pos hc;have e2:(Ll refs.length).find? (rfsB refs (Z03 h).1)=Ld (fstR (Z03 h).1 refs):=by
   rw[Lq];refine⟨by rw[hb];exact Zfx hc,Lk.2 hc,λj hj=>?_⟩;rw[hb,(Zbc hj).2];rfl
  rw[e1,e2];simp
 .have e1:idxR (Z03 h).1 refs=-1:=if_neg hc;have e2:(Ll refs.length).find? (rfsB refs (Z03 h).1)=Lh:=by
   rw[Lr];intro j hj;have hj:=Lk.1 hj;rw[hb,(Zbc (l:=refs) (m:=j) oq).2];simp
  rw[e1,e2];rfl
end Go.Proofs.YtgedmeaemofdkaaGreat
namespace Go.Proofs.YtgedmeaemofdkaaGreat
open Go.Sx Go.RowKit
def Zer(h:Heap)(refs:List Int)(hw:WOk h.W)(hl:refs.length<=1048576)(hg:Z0r h=⟨0,0,0⟩):GP 74 [h.av,Z01 refs] La (bool (!decide (0<=idxR (Z03 h).1 refs))) []:=by
 intro w00 Im vs hIm hsz hargs;rw[<- callsIn_wide (n:=10)];refine callsIn_of_wp func74 (c:=bdyF f74) kr trivial ?_ rfl;have hs1:vs.size=2:=hsz;have S0:Sx.Sys Z3E Im w00 (tm 19 [(0,h.av),(1,Z01 refs)]) (hOf []) 1 { tmps:=vs++LN (Tryz.f74.ntmps-vs.size) undef,defers:=[] } w00:=by
  refine⟨_,Im,Sx.Inv.empty hIm (Ln 1),⟨by rw[hs1];simp[hs1];kernel_rfl,λk y v hy hv=>?_,rfl⟩⟩;rw[show tm 19 [(0,h.av),(1,Z01 refs)]=[h.av,Z01 refs]++Le 17 .any from by kernel_rfl,LY]at hy;rw[LM]at hv;split at hy
  .rename_i hk;rw[if_pos (by rw[hsz];exact hk)]at hv;exact hargs k y v hy hv
  .have:=L4 hy;rw[(LH.1 this).2];exact .any _
 generalize hR:(λe w'=>∃ v,e=Ending.returned v/\Zeh w00 Im La (Sx.bool (!decide (0<=idxR (Z03 h).1 refs))) [] v w')=R;generalize hQ:bodyPost prog f74 R=Q;refine ZgC h refs hw hg 10 Q _ _ _ _ _ S0 ?_;rintro a1 w1 ⟨ρ1,Im1,I1,T1⟩;obtain⟨v5,t5,r5⟩:=T1.at (t:=5) (x:=.pt 24005 0 0) rfl;obtain⟨β,m,n⟩:=I1.blk 24005 _ rfl;have rp5:Rel (λ_=>Lh) w1 (λg=>Im1 g\/β.g=Ld g) (.rp [.sl 1 ((Z03 h).1.map wdv)] 0) v5:=Z4I m n r5 (λ_ h=>.inl h) (λ_ h=>.inr h);have er:rest prog 10 4 (bdyF f74) Q a1 w1=(Code.region 4 (rgO f74 4) Lc).wpIn Fence.wide 10 prog (Exit.then (Code.ret.wpIn Fence.wide 10 prog Q) Q) a1 w1:=by kernel_rfl
 rw[er];refine wpIn_region ?_;rw[show Ll (rgO f74 4).size=[0,1,2,3,4]from by kernel_rfl];have T2:RelT [] (λ_=>Lh) w1 (λg=>Im1 g\/β.g=Ld g) (tm 19 [(1,Z01 refs),(5,.rp [.sl 1 ((Z03 h).1.map wdv)] 0)]) a1:=by
  have A1:RelT [] ρ1 w1 (λg=>Im1 g\/β.g=Ld g) _ a1:=T1.mono (Sx.Ext.refl _ _) (λ_ h=>.inl h) (λ_ _ h=>h) I1.bnd;have A2:=(A1.reSet 5 .any (λv _=>.any v)).pure kr;exact A2.reSet 5 (.rp [.sl 1 ((Z03 h).1.map wdv)] 0) (λv hv=>by rw[t5]at hv;cases hv;exact rp5)
 have S2:Sx.Sys Z3E (λg=>Im1 g\/β.g=Ld g) w1 (tm 19 [(1,Z01 refs),(5,.rp [.sl 1 ((Z03 h).1.map wdv)] 0)]) (hOf []) 20 a1 w1:=by
  refine⟨_,_,Sx.Inv.empty ?_ dd,T2⟩;rintro g (hg | hg)
  .exact I1.imb g hg
  .exact I1.bnd _ _ g m hg
 generalize hb:Lb (0<=idxR (Z03 h).1 refs)=b at hR;have hc:=ZiB (Z03 h).1 refs hl (by have:=Z0F h;omega) (Z2Q h);rw[hb]at hc;refine Z5c (ro:=Lh) (hints:=[(17,[Hint.call La (Sx.bool b) []])]) (out:=⟨((((tm 19 [(1,Z01 refs),(5,.rp [.sl 1 ((Z03 h).1.map wdv)] 0)]).set 15 (Z01 refs)).set 16 (.fn 126 [.rp [.sl 1 ((Z03 h).1.map wdv)] 0])).set 17 (Sx.bool b)).set 18 (Sx.bool (!b)) |>.set 4 (Sx.bool (!b)),hOf [],[GP 125 [Z01 refs,.fn 126 [.rp [.sl 1 ((Z03 h).1.map wdv)] 0]] La (Sx.bool b) []],[]⟩) kr S2 hc (λp hp=>by simp at hp) ?_;rintro a3 w3 ⟨ρ3,Im3,I3,T3⟩;refine wpIn_ret ?_;show Q .ret a3 w3;rw[<- hQ];refine bodyPost_ret (results_tmp rfl _ _ _) T3.defers ?_;rw[<- hR];have r4:a3.tmps.getD 4 undef = .bool (!b):=Z0G (Z1p T3 (.tmp 4));rw[r4];exact⟨_,rfl,Z3m I1.kept.no I3.kept (λ_ h=>(Sx.OwA.no h).elim),λ_=>Lh,λ_=>False,λ_ q=>q.elim,λ_ q=>q.elim,λ_ _ _ q=>(by cases q),λ_ _ _ _ _ q=>(by cases q),λ_ _ q=>(by cases q),λk B q=>by simp at q,.d (.sc _ rfl)⟩
def Z9k(h:Heap)(refs:List Int)(hw:WOk h.W)(hl:refs.length<=1048576):GP 74 [h.av,Z01 refs] La (bool (Z0f h refs)) []:=by
 by_cases hg:Z0r h=⟨0,0,0⟩
 .have e:Z0f h refs = !decide (0<=idxR (Z03 h).1 refs):=by
   unfold Z0f;rw[Znn,hg];simp
  rw[e];exact Zer h refs hw hl hg
 .have e:Z0f h refs=Lc:=by simp[Z0f,hg]
  rw[e];exact Zhk h refs hw hg
end Go.Proofs.YtgedmeaemofdkaaGreat
namespace Go.Proofs.YtgedmeaemofdkaaGreat
open Go.Sx
def pgI(h:Heap)(a:Int):Nat:=((a-4096)/h.C.pw).toNat
def pgA(h:Heap)(a:Int):Page:=h.P.getD (pgI h a) M
def msW(h:Heap)(l:List Int):Nat->Int
 | 0=>0
 | i+1=>msW h l i+sizeH (atH h (l.getD i M)).1
def msL(h:Heap)(l:List Int):Nat->Int
 | 0=>0
 | i+1=>if(pgA h (l.getD i M)).K=2 then msL h l i+need h.C (sizeH (atH h (l.getD i M)).1)else msL h l i
def msS(h:Heap)(l:List Int):Nat->Int
 | 0=>0
 | i+1=>if(pgA h (l.getD i M)).K=2 then msS h l i else if(pgA h (l.getD i M)).N=0 then msS h l i+sizeH (atH h (l.getD i M)).1 else msS h l i
def msP(h:Heap):Nat->Int
 | 0=>0
 | i+1=>if(h.P.getD i M).K=1/\0<(h.P.getD i M).N then msP h i+1 else msP h i
def Z7K(h:Heap)(l:List Int)(i:Nat):(0<=msW h l i/\msW h l i<=256*i)/\(-i<=msL h l i/\msL h l i<=5*i)/\(0<=msS h l i/\msS h l i<=256*i)/\(0<=msP h i/\msP h i<=i):=by
 induction i with
 | zero=>simp[msW,msL,msS,msP]
 | succ i ih =>
  have:=Z0T (atH h (l.getD i M)).1;have:=Z1J h.C (sizeH (atH h (l.getD i M)).1);rw[msW,msL,msS,msP];refine⟨by omega, ?_, ?_, ?_⟩
  .split<;>omega
  .split
   .omega
   .split<;>omega
  .split<;>omega
def Z6T{h:Heap}(hp:Z02 h=La){a:Int}(ha:a∈(Z03 h).1):4096<=a/\a<8192/\(ofA h.C a).1=(pgI h a:Nat)/\(ofA h.C a).2.2=0/\pgI h a<h.P.length:=by
 obtain⟨_,_,_,o,a1,a2,_⟩:=Z3A (Z58 hp ha).1;obtain⟨hv,_,pl,_⟩:=properB_iff.1 hp;have hb:=validB_iff.1 hv;unfold ofA at o ⊢;rw[if_pos hv]at o ⊢;by_cases c:4096<=a/\a<4096+h.C.pw*h.C.pg
 .rw[if_pos c];have d0:0<=(a-4096)/h.C.pw:=Int.ediv_nonneg oq oq;have d1:(a-4096)/h.C.pw<h.C.pg:=Int.ediv_lt_of_lt_mul oq (by rw[LB];omega);refine⟨a1,a2, ?_,rfl, ?_⟩
  .show(a-4096)/h.C.pw=_;unfold pgI;omega
  .unfold pgI;omega
 .rw[if_neg c]at o;simp at o
def Z4v(h:Heap)(a:Int)(hw:WOk h.W)(hp:Z02 h=La)(ha:a∈(Z03 h).1):GP 95 [h.av,u64 a] La (.tu [(atH h a).1.av,int 0]) []:=by
 obtain⟨_,g2,g3⟩:=Z58 hp ha;have ox:=(Z6T hp ha).1;have oy:=(Z6T hp ha).2.1;have gm:=Z27 hw a;exact gF [] func95 [] (Fh 21 [.br Lc] (Fh 26 [.br Lc] (Fc 9 (@Z0n h) (Ffb 10 (!Z02 h) (Ffb 13 (a==0) (Fc 18 (@Z2M h a aa oq) (Fb (((atH h a).2 != 0)=Lc) (Fb (((atH h a).1.K==0)=Lc) Fz))))))))
def Z6S(h:Heap)(a:Int)(hp:Z02 h=La)(ha:a∈(Z03 h).1):GP 96 [h.C.av,u64 a] La (.tu [int (pgI h a:Nat),int (ofA h.C a).2.1,int 0]) []:=by
 have k:=Z6T hp ha;have:=Z3B h.C a oq oq;unfold ofV at this;rw[k.2.2.1,k.2.2.2.1]at this;exact this
def Z9b(h:Heap)(a:Int)(hp:Z02 h=La)(ha:a∈(Z03 h).1):GP 44 [h.C.av,u64 a] La (.tu [int (pgI h a:Nat),int (ofA h.C a).2.1,int 0]) []:=by
 have k:=Z6T hp ha;have:=Z4j h.C a oq oq;unfold ofV at this;rw[k.2.2.1,k.2.2.2.1]at this;exact this
def bmA(h:Heap)(l:List Int)(i:Nat):Tg:=⟨tm 122 [(2,.pt 8002 0 0),(4,.pt 8004 0 0),(5,int 0),(8,.pt 48008 0 0),(39,Z01 l),(40,int l.length),(41,int i)],[(48008,.box 92 [int i,int (msW h l i),int (msS h l i),int (msL h l i),int 0]),(8004,.box 92 [int 0,int 0,int 0,int 0,int 0]),(8002,.box 28 h.cells)],8⟩
def bmB(h:Heap)(o x y z:Int)(i:Nat):Tg:=⟨tm 122 [(4,.pt 8004 0 0),(5,int 0),(8,.pt 48008 0 0),(102,.d (.sl 4 (h.P.map Page.dv))),(103,int h.P.length),(104,int i)],[(48008,.box 92 [int o,int x,int y,int z,int (msP h i)]),(8004,.box 92 [int 0,int 0,int 0,int 0,int 0]),(8002,.box 28 h.cells)],9⟩
def ZlQ(h:Heap)(o x y z:Int)(i:Nat)(hl:h.P.length<=64)(hi:i<h.P.length):CP (rndF f48 3) (bmB h o x y z i).st .nrm (bmB h o x y z (i+1)).st:=by
 have mr:=Z7K h [] i;by_cases c:(h.P.getD i M).K=1/\0<(h.P.getD i M).N
 .have e1:msP h (i+1)=msP h i+1:=by rw[msP,if_pos c]
  unfold bmB;rw[e1];exact sF [] [] (Ftb 105 (Lb ((i:Int)<(h.P.length:Int))) (Fek 106 Page.dv h.P (↑i) i (Ftb 115 ((h.P.getD i M).K==1&&Lb (0<(h.P.getD i M).N)) (Fi 118 (msP h i+1) (Fx 120 i Fz)))))
 .have e1:msP h (i+1)=msP h i:=by rw[msP,if_neg c]
  unfold bmB;rw[e1];exact sF [] [] (Ftb 105 (Lb ((i:Int)<(h.P.length:Int))) (Fek 106 Page.dv h.P (↑i) i (Ffb 115 ((h.P.getD i M).K==1&&Lb (0<(h.P.getD i M).N)) (Fx 120 i Fz))))
def ZpC(h:Heap)(o x y z:Int):CP (rndF f48 3) (bmB h o x y z h.P.length).st (.ext 3) (Tg.st ⟨tm 122 [(4,.pt 8004 0 0),(5,int 0),(8,.pt 48008 0 0)],[(48008,.box 92 [int o,int x,int y,int z,int (msP h h.P.length)]),(8004,.box 92 [int 0,int 0,int 0,int 0,int 0])],9⟩):=by
 exact sF [] [] (Ffb 105 (Lb ((h.P.length:Int)<(h.P.length:Int))) Fz)
def Zog(h:Heap)(o x y z:Int)(hl:h.P.length<=64)  := Z08 (S:=λi=>(bmB h o x y z i).st) h.P.length (by kernel_rfl) (λi hi=>ZlQ h o x y z i hl hi) (ZpC h o x y z)
section
variable (h:Heap) (roots l:List Int) (hw:WOk h.W) (O:OrdL h roots l)
include hw O
theorem ZkQ(i:Nat)(hi:i<l.length):CP (rndF f48 0) (bmA h l i).st .nrm (bmA h l (i+1)).st:=by
 have ll:=O.len;have hp:=O.p;have ao:=O.el _ (getD_mem_iff.2 ⟨i,hi,rfl⟩);have pq:=Z6T hp ao;have sb:=Z0T (atH h (l.getD i M)).1;have nr:=Z1J h.C (sizeH (atH h (l.getD i M)).1);have mr:=Z7K h l i;have mp:=Z27 hw (l.getD i M);have e3:msW h l (i+1)=msW h l i+sizeH (atH h (l.getD i M)).1:=rfl;by_cases c:(pgA h (l.getD i M)).K=2
 .have e1:msL h l (i+1)=msL h l i+need h.C (sizeH (atH h (l.getD i M)).1):=by rw[msL,if_pos c]
  have e2:msS h l (i+1)=msS h l i:=by rw[msS,if_pos c]
  unfold bmA;rw[e1,e2,e3];unfold pgA at c;let y0:=l.getD i M;exact sF [] [] (Fh 79 [.br La] (Ftb 42 (Lb ((i:Int)<(l.length:Int))) (Fek 43 wdv l (↑i) i (Fc 48 (@Z4v h y0 aa aa aa) (Fc 56 (@Z0B ((atH h y0).1) aa) (Fc 61 (@Z6S h y0 aa aa) (Fx 67 i (Fi 72 (msW h l i+sizeH (atH h y0).1) (Fek 77 Page.dv h.P (↑(pgI h y0):Int) (pgI h y0) (Fb (((h.P.getD (pgI h y0) M).K==2)=La) (Fc 88 (@Z2t h.C (sizeH (atH h y0).1)) (Fi 89 (msL h l i+need h.C (sizeH (atH h y0).1)) (Fx 100 i Fz)))))))))))))
 .have e1:msL h l (i+1)=msL h l i:=by rw[msL,if_neg c]
  by_cases d:(pgA h (l.getD i M)).N=0
  .have e2:msS h l (i+1)=msS h l i+sizeH (atH h (l.getD i M)).1:=by rw[msS,if_neg c,if_pos d]
   unfold bmA;rw[e1,e2,e3];unfold pgA at c d;let y1:=l.getD i M;exact sF [] [] (Fh 79 [.br Lc] (Fh 91 [.br La] (Ftb 42 (Lb ((i:Int)<(l.length:Int))) (Fek 43 wdv l (↑i) i (Fc 48 (@Z4v h y1 aa aa aa) (Fc 56 (@Z0B ((atH h y1).1) aa) (Fc 61 (@Z6S h y1 aa aa) (Fx 67 i (Fi 72 (msW h l i+sizeH (atH h y1).1) (Fek 77 Page.dv h.P (↑(pgI h y1):Int) (pgI h y1) (Fb (((h.P.getD (pgI h y1) M).K==2)=Lc) (Fb (((h.P.getD (pgI h y1) M).N==0)=La) (Fi 98 (msS h l i+sizeH (atH h y1).1) (Fx 100 i Fz))))))))))))))
  .have e2:msS h l (i+1)=msS h l i:=by rw[msS,if_neg c,if_neg d]
   unfold bmA;rw[e1,e2,e3];unfold pgA at c d;let y2:=l.getD i M;exact sF [] [] (Fh 79 [.br Lc] (Fh 91 [.br Lc] (Ftb 42 (Lb ((i:Int)<(l.length:Int))) (Fek 43 wdv l (↑i) i (Fc 48 (@Z4v h y2 aa aa aa) (Fc 56 (@Z0B ((atH h y2).1) aa) (Fc 61 (@Z6S h y2 aa aa) (Fx 67 i (Fi 72 (msW h l i+sizeH (atH h y2).1) (Fek 77 Page.dv h.P (↑(pgI h y2):Int) (pgI h y2) (Fb (((h.P.getD (pgI h y2) M).K==2)=Lc) (Fb (((h.P.getD (pgI h y2) M).N==0)=Lc) (Fx 100 i Fz)))))))))))))
omit hw O in
theorem Zp6:CP (rndF f48 0) (bmA h l l.length).st (.ext 0) (Tg.st ⟨tm 122 [(2,.pt 8002 0 0),(4,.pt 8004 0 0),(5,int 0),(8,.pt 48008 0 0)],[(48008,.box 92 [int l.length,int (msW h l l.length),int (msS h l l.length),int (msL h l l.length),int 0]),(8004,.box 92 [int 0,int 0,int 0,int 0,int 0]),(8002,.box 28 h.cells)],8⟩):=by
 exact sF [] [] (Ffb 42 (Lb ((l.length:Int)<(l.length:Int))) Fz)
def Zot  := Z08 (S:=λi=>(bmA h l i).st) l.length (by kernel_rfl) (λi hi=>ZkQ h roots l hw O i hi) (Zp6 h l)
end
def Zcw(h:Heap)(roots:List Int)(hw:WOk h.W)(hl:roots.length<=1000)(hr:ULe roots)(hp:Z02 h=La)(hr2:Z0f h roots=La)(e:(Z09 h roots).2=0):GP 48 [h.av,Z01 roots] La (.tu [(⟨(Z09 h roots).1.length,msW h (Z09 h roots).1 (Z09 h roots).1.length,msS h (Z09 h roots).1 (Z09 h roots).1.length,msL h (Z09 h roots).1 (Z09 h roots).1.length,msP h h.P.length⟩:Live).av,int 0]) []:=by
 have O:=ZcX h roots hw hl hr e;have pl:h.P.length<=64:=by
  obtain⟨hv,_,pl,_⟩:=properB_iff.1 hp;have:=validB_iff.1 hv;omega
 exact gF [] func48 [] (Fc 21 (@Z0n h) (Ffb 22 (!Z02 h) (Fc 26 (@Z9k h roots aa oq) (Ffb 27 (!Z0f h roots) (Fc 32 (@Zgp h roots aa aa aa) (Ffb 36 ((Z09 h roots).2 != 0) (Fl 40 wdv (Z09 h roots).1 (Fu (@Zot h roots ((Z09 h roots).1) aa O) (Fl 103 Page.dv h.P (Fu (@Zog h ((↑(Z09 h roots).1.length:Int)) (msW h (Z09 h roots).1 (Z09 h roots).1.length) (msS h (Z09 h roots).1 (Z09 h roots).1.length) (msL h (Z09 h roots).1 (Z09 h roots).1.length) aa) Fz))))))))))
def rmA(h:Heap)(l:List Int)(i:Nat):Tg:=⟨tm 123 [(2,.pt 8002 0 0),(4,.pt 8004 0 0),(5,int 0),(6,Z01 l),(8,.pt 40008 0 0),(9,int i)],[(40008,.box 95 [int l.length,int (msW h l i),int (msS h l i),int (msL h l i),int 0]),(8004,.box 95 [int 0,int 0,int 0,int 0,int 0]),(8002,.box 28 h.cells)],7⟩
def rmB(h:Heap)(o x y z:Int)(i:Nat):Tg:=⟨tm 123 [(2,.pt 8002 0 0),(4,.pt 8004 0 0),(5,int 0),(8,.pt 40008 0 0),(16,int i)],[(40008,.box 95 [int o,int x,int y,int z,int (msP h i)]),(8004,.box 95 [int 0,int 0,int 0,int 0,int 0]),(8002,.box 28 h.cells)],8⟩
def Zlt(h:Heap)(o x y z:Int)(i:Nat)(hl:h.P.length<=64)(hi:i<h.P.length):CP (rndF f49 2) (rmB h o x y z i).st .nrm (rmB h o x y z (i+1)).st:=by
 have mr:=Z7K h [] i;by_cases c:(h.P.getD i M).K=1/\0<(h.P.getD i M).N
 .have e1:msP h (i+1)=msP h i+1:=by rw[msP,if_pos c]
  unfold rmB;rw[e1];exact sF [] [] (FN 98 99 105 Page.dv h.P i (FeG 113 ((h.P.getD i M).K==1) Page.dv h.P (↑i) i (Ftb 117 ((h.P.getD i M).K==1&&Lb (0<(h.P.getD i M).N)) (Fi 120 (msP h i+1) (Fx 101 i Fz)))))
 .have e1:msP h (i+1)=msP h i:=by rw[msP,if_neg c]
  unfold rmB;rw[e1];exact sF [] [] (FN 98 99 105 Page.dv h.P i (FeG 113 ((h.P.getD i M).K==1) Page.dv h.P (↑i) i (Ffb 117 ((h.P.getD i M).K==1&&Lb (0<(h.P.getD i M).N)) (Fx 101 i Fz))))
def ZpR(h:Heap)(o x y z:Int)(hl:h.P.length<=64):CP (rndF f49 2) (rmB h o x y z h.P.length).st (.ext 2) (Tg.st ⟨tm 123 [(4,.pt 8004 0 0),(5,int 0),(8,.pt 40008 0 0)],[(40008,.box 95 [int o,int x,int y,int z,int (msP h h.P.length)]),(8004,.box 95 [int 0,int 0,int 0,int 0,int 0])],8⟩):=by
 exact sF [] [] (FO 98 99 Page.dv h.P Fz)
def Zn2(h:Heap)(o x y z:Int)(hl:h.P.length<=64)  := Z08 (S:=λi=>(rmB h o x y z i).st) h.P.length (by kernel_rfl) (λi hi=>Zlt h o x y z i hl hi) (ZpR h o x y z hl)
section
variable (h:Heap) (roots l:List Int) (hw:WOk h.W) (O:OrdL h roots l)
include hw O
theorem ZkK(i:Nat)(hi:i<l.length):CP (rndF f49 0) (rmA h l i).st .nrm (rmA h l (i+1)).st:=by
 have ll:=O.len;have hp:=O.p;have ao:=O.el _ (getD_mem_iff.2 ⟨i,hi,rfl⟩);have pq:=Z6T hp ao;have sb:=Z0T (atH h (l.getD i M)).1;have nr:=Z1J h.C (sizeH (atH h (l.getD i M)).1);have mr:=Z7K h l i;have mp:=Z27 hw (l.getD i M);have pl:h.P.length<=64:=by
  obtain⟨hv,_,pl,_⟩:=properB_iff.1 hp;have:=validB_iff.1 hv;omega
 have e3:msW h l (i+1)=msW h l i+sizeH (atH h (l.getD i M)).1:=rfl;by_cases c:(pgA h (l.getD i M)).K=2
 .have e1:msL h l (i+1)=msL h l i+need h.C (sizeH (atH h (l.getD i M)).1):=by rw[msL,if_pos c]
  have e2:msS h l (i+1)=msS h l i:=by rw[msS,if_pos c]
  unfold rmA;rw[e1,e2,e3];unfold pgA at c;let y0:=l.getD i M;exact sF [] [] (FN 37 38 45 wdv l i (Fc 47 (@Z7c h y0 aa aa aa) (Fc 51 (@Z1E ((atH h y0).1) aa) (Fek 57 wdv l (↑i) i (Fc 59 (@Z9b h y0 aa aa) (Fi 66 (msW h l i+sizeH (atH h y0).1) (Fek 71 Page.dv h.P (↑(pgI h y0):Int) (pgI h y0) (Ftb 74 ((h.P.getD (pgI h y0) M).K==2) (Fc 80 (@Z3V h.C (sizeH (atH h y0).1)) (Fi 81 (msL h l i+need h.C (sizeH (atH h y0).1)) (Fx 40 i Fz)))))))))))
 .have e1:msL h l (i+1)=msL h l i:=by rw[msL,if_neg c]
  by_cases d:(pgA h (l.getD i M)).N=0
  .have e2:msS h l (i+1)=msS h l i+sizeH (atH h (l.getD i M)).1:=by rw[msS,if_neg c,if_pos d]
   unfold rmA;rw[e1,e2,e3];unfold pgA at c d;let y1:=l.getD i M;exact sF [] [] (FN 37 38 45 wdv l i (Fc 47 (@Z7c h y1 aa aa aa) (Fc 51 (@Z1E ((atH h y1).1) aa) (Fek 57 wdv l (↑i) i (Fc 59 (@Z9b h y1 aa aa) (Fi 66 (msW h l i+sizeH (atH h y1).1) (Fek 71 Page.dv h.P (↑(pgI h y1):Int) (pgI h y1) (Ffb 74 ((h.P.getD (pgI h y1) M).K==2) (Fek 86 Page.dv h.P (↑(pgI h y1):Int) (pgI h y1) (Ftb 89 ((h.P.getD (pgI h y1) M).N==0) (Fi 93 (msS h l i+sizeH (atH h y1).1) (Fx 40 i Fz))))))))))))
  .have e2:msS h l (i+1)=msS h l i:=by rw[msS,if_neg c,if_neg d]
   unfold rmA;rw[e1,e2,e3];unfold pgA at c d;let y2:=l.getD i M;exact sF [] [] (FN 37 38 45 wdv l i (Fc 47 (@Z7c h y2 aa aa aa) (Fc 51 (@Z1E ((atH h y2).1) aa) (Fek 57 wdv l (↑i) i (Fc 59 (@Z9b h y2 aa aa) (Fi 66 (msW h l i+sizeH (atH h y2).1) (Fek 71 Page.dv h.P (↑(pgI h y2):Int) (pgI h y2) (Ffb 74 ((h.P.getD (pgI h y2) M).K==2) (Fek 86 Page.dv h.P (↑(pgI h y2):Int) (pgI h y2) (Ffb 89 ((h.P.getD (pgI h y2) M).N==0) (Fx 40 i Fz)))))))))))
theorem ZoG:CP (rndF f49 0) (rmA h l l.length).st (.ext 0) (Tg.st ⟨tm 123 [(2,.pt 8002 0 0),(4,.pt 8004 0 0),(5,int 0),(8,.pt 40008 0 0)],[(40008,.box 95 [int l.length,int (msW h l l.length),int (msS h l l.length),int (msL h l l.length),int 0]),(8004,.box 95 [int 0,int 0,int 0,int 0,int 0]),(8002,.box 28 h.cells)],7⟩):=by
 have ll:=O.len;exact sF [] [] (FO 37 38 wdv l Fz)
def ZmQ  := Z08 (S:=λi=>(rmA h l i).st) l.length (by kernel_rfl) (λi hi=>ZkK h roots l hw O i hi) (ZoG h roots l hw O)
end
def ZcG(h:Heap)(roots:List Int)(hw:WOk h.W)(hl:roots.length<=1000)(hr:ULe roots)(hp:Z02 h=La)(hr2:Z0f h roots=La)(e:(Z09 h roots).2=0):GP 49 [h.av,Z01 roots] Lc (.tu [(⟨(Z09 h roots).1.length,msW h (Z09 h roots).1 (Z09 h roots).1.length,msS h (Z09 h roots).1 (Z09 h roots).1.length,msL h (Z09 h roots).1 (Z09 h roots).1.length,msP h h.P.length⟩:Live).av,int 0]) []:=by
 have O:=ZcX h roots hw hl hr e;have pl:h.P.length<=64:=by
  obtain⟨hv,_,pl,_⟩:=properB_iff.1 hp;have:=validB_iff.1 hv;omega
 have ll:=O.len;exact gF [] func49 [] (Fc 18 (@Z0h h) (Ffb 19 (!Z02 h) (Fc 23 (@Z1u h roots aa oq) (Ffb 24 (!Z0f h roots) (Fc 29 (@ZgX h roots aa aa aa) (Fl 33 wdv (Z09 h roots).1 (Fu (@ZmQ h roots ((Z09 h roots).1) aa O) (Fu (@Zn2 h ((↑(Z09 h roots).1.length:Int)) (msW h (Z09 h roots).1 (Z09 h roots).1.length) (msS h (Z09 h roots).1 (Z09 h roots).1.length) (msL h (Z09 h roots).1 (Z09 h roots).1.length) aa) Fz))))))))
def Z1A(w:Work)(r:Int):Int:=if r∈w.Q then r else(Z0u (loadA w.heap.W r).1).1
def Zas(w:Work)(r:Int)(hw:WOk w.heap.W)(hl:w.heap.W.length<=4096)(hq:w.Q.length<=1048576)(h0:0<=r/\r<=18446744073709551615):GP 85 [w.av,u64 r] La (u64 (Z1A w r)) []:=by
 have h1:=Z0H hw r;rcases bb (Lb (r∈w.Q))with hc0 | hc0<;>have hc0p:=hc0<;>simp only[bs]at hc0p
 .exact gF [] func85 [La] (Fh 12 [.call La (Sx.bool (Lb (r∈w.Q))) [],.br La] (Fa (@Z0N w.Q r aa) (Fa hc0 (Fa (by simp[Z1A, *]:r=Z1A w r) Fz))))
 .exact gF [] func85 [La] (Fh 12 [.call La (Sx.bool (Lb (r∈w.Q))) [],.br Lc] (Fa (@Z0N w.Q r aa) (Fa hc0 (Fc 19 (@Z1H w.heap.W r oq aa) (Fc 24 (@Z2R ((loadA w.heap.W r).1) oq oq) (Fa (by simp[Z1A, *]:(Z0u (loadA w.heap.W r).1).1=Z1A w r) Fz))))))
def ZhN(w:Work)(a:Int)(hw:WOk w.heap.W)(h1:w.heap.W.length<=4096)(h0:0<=a/\a<=18446744073709551615):GP 142 [w.av,u64 a] La (hdW w a).av []:=by
 have h2:=Z0H hw a;exact gF [] func142 [] (Fc 14 (@Z1H w.heap.W a oq aa) (Fc 19 (@Z2P ((loadA w.heap.W a).1) oq oq) Fz))
def Z7w(w:Work)(x:Int):Work:=if Z1L w (ofA w.heap.C x).1=La/\x∉w.Q then⟨⟨w.heap.C,(Z0D w.heap.W x (objW ⟨0,(hdW w x).length,0⟩)).1,w.heap.P,w.heap.S,w.heap.B⟩,w.old,w.T,w.Q,w.D,⟨w.rep.copied,w.rep.kept,w.rep.filled+1,w.rep.freed,w.rep.cleared,w.rep.steps⟩⟩else w
def fillN(w:Work):Nat->Work
 | 0=>w
 | k+1=>Z7w (fillN w k) (w.old.getD k M)
def Zkv(w:Work)(i:Nat):Tg:=⟨tm 84 [(1,.pt 8001 0 0),(2,.pt 8002 0 0),(3,int i)],[(8002,.box 138 zW),(8001,.box 138 w.cells)],60⟩
structure FOk (w:Work):Prop where
 W:WOk w.heap.W
 wl:w.heap.W.length<=4096
 pl:w.heap.P.length<=64
 ol:w.old.length<=524288
 o:∀ x∈w.old,0<=x/\x<=8192
 tl:w.T.length<=1000000
 ql:w.Q.length<=1000000
def WkOk.fok{w:Work}(h:WkOk w):FOk w:=by
 have h1:=h.mu;have h2:=h.tl;have h3:=h.pl;have h4:=validB_iff.1 h.C;exact⟨h.W,h.wl,by omega,h.ol,h.o,by omega,by omega⟩
def Z7T{n:Int}(h:0<=n/\n<=255):Z0c ⟨0,n,0⟩=(1+16*n,0):=by
 have hv:Z0i ⟨0,n,0⟩=La:=validH_iff.2 ⟨by simp,by simp,h.1,h.2,by simp⟩;rw[Z0c,if_pos hv];simp
section
variable (w:Work) (i:Nat) (hw:FOk w) (hi:i<w.old.length) (hr:0<=w.rep.filled/\w.rep.filled<=1000000)
include hw hi hr
theorem Zig:CP (rndF f87 0) (Zkv w i).st .nrm (Zkv (Z7w w (w.old.getD i M)) (i+1)).st:=by
 have h1:=hw.W;have h2:=hw.wl;have h3:=hw.pl;have h4:=hw.ol;have h5:=hw.tl;have h6:=hw.ql;have hx:=hw.o _ (getD_mem_iff.2 ⟨i,hi,rfl⟩);have hm:=Z29 (loadA w.heap.W (w.old.getD i M)).1 (Z0H h1 _).1;have hh:0<=(hdW w (w.old.getD i M)).length/\(hdW w (w.old.getD i M)).length<=255:=Z13 w.heap.W (w.old.getD i M);have he:=Z7T hh;by_cases c1:Z1L w (ofA w.heap.C (w.old.getD i M)).1=La
 .by_cases c2:w.old.getD i M∈w.Q
  .have e7:Z7w w (w.old.getD i M)=w:=by rw[Z7w,if_neg (by rintro⟨_,q⟩;exact q c2)]
   rw[e7];exact sF [] [] (FN 13 14 24 wdv w.old i (Fc 26 (@Z4j w.heap.C (w.old.getD i M) oq oq) (Fc 32 (@Z1U w ((ofA w.heap.C (w.old.getD i M)).1) oq oq) (FeG 40 (!!Z1L w (ofA w.heap.C (w.old.getD i M)).1) wdv w.old (↑i) i (FcG 42 (!!Z1L w (ofA w.heap.C (w.old.getD i M)).1) (λhg=>by(try simp only[bs]at hg);exact @Z0N w.Q (w.old.getD i M) oq) (Fts 43 (!Z1L w (ofA w.heap.C (w.old.getD i M)).1||Lb (w.old.getD i M∈w.Q)) (Fx 16 i Fz)))))))
  .have e7:Z7w w (w.old.getD i M)=⟨⟨w.heap.C,(Z0D w.heap.W (w.old.getD i M) (objW ⟨0,(hdW w (w.old.getD i M)).length,0⟩)).1,w.heap.P,w.heap.S,w.heap.B⟩,w.old,w.T,w.Q,w.D,⟨w.rep.copied,w.rep.kept,w.rep.filled+1,w.rep.freed,w.rep.cleared,w.rep.steps⟩⟩:=by rw[Z7w,if_pos ⟨c1,c2⟩]
   rw[e7];exact sF [] [] (Fh 71 [.els (Lf wdv ([(Z0c (Header.mk 0 (hdW w (w.old.getD i M)).length 0)).1]++Le (hdW w (w.old.getD i M)).length.toNat 0))] (FN 13 14 24 wdv w.old i (Fc 26 (@Z4j w.heap.C (w.old.getD i M) oq oq) (Fc 32 (@Z1U w ((ofA w.heap.C (w.old.getD i M)).1) oq oq) (FeG 40 (!!Z1L w (ofA w.heap.C (w.old.getD i M)).1) wdv w.old (↑i) i (FcG 42 (!!Z1L w (ofA w.heap.C (w.old.getD i M)).1) (λhg=>by(try simp only[bs]at hg);exact @Z0N w.Q (w.old.getD i M) oq) (Ffs 43 (!Z1L w (ofA w.heap.C (w.old.getD i M)).1||Lb (w.old.getD i M∈w.Q)) (Fek 48 wdv w.old (↑i) i (Fc 50 (@ZhN w (w.old.getD i M) aa aa oq) (Fc 55 (@Z3r (Header.mk 0 (hdW w (w.old.getD i M)).length 0) (by(simp only[bs];omega))) (Fek 65 wdv w.old (↑i) i (Fs 68 (Lf wdv [(Z0c (Header.mk 0 (hdW w (w.old.getD i M)).length 0)).1]) (Fa (by grind[objW]:0<=(hdW w (w.old.getD i M)).length/\(↑(Lf wdv [(Z0c (Header.mk 0 (hdW w (w.old.getD i M)).length 0)).1]).length:Int)+(hdW w (w.old.getD i M)).length<=2^30) (Fa (by simp[objW,Ly,Lx,LG,Lu,wdv,idv]:Lf wdv [(Z0c (Header.mk 0 (hdW w (w.old.getD i M)).length 0)).1]++Le (hdW w (w.old.getD i M)).length.toNat [du64 0]=Lf wdv ([(Z0c (Header.mk 0 (hdW w (w.old.getD i M)).length 0)).1]++Le (hdW w (w.old.getD i M)).length.toNat 0)) (Fc 72 (@Z4T w.heap.W ([(Z0c (Header.mk 0 (hdW w (w.old.getD i M)).length 0)).1]++Le (hdW w (w.old.getD i M)).length.toNat 0) (w.old.getD i M) oq oq (by grind[objW])) (Fi 80 (w.rep.filled+1) (Fx 16 i Fz)))))))))))))))))
 .have e7:Z7w w (w.old.getD i M)=w:=by rw[Z7w,if_neg (by rintro⟨q,_⟩;exact c1 q)]
  rw[e7];exact sF [] [] (FN 13 14 24 wdv w.old i (Fc 26 (@Z4j w.heap.C (w.old.getD i M) oq oq) (Fc 32 (@Z1U w ((ofA w.heap.C (w.old.getD i M)).1) oq oq) (FeG 40 (!!Z1L w (ofA w.heap.C (w.old.getD i M)).1) wdv w.old (↑i) i (FcG 42 (!!Z1L w (ofA w.heap.C (w.old.getD i M)).1) (λhg=>by(try simp only[bs]at hg);exact @Z0N w.Q (w.old.getD i M) oq) (Fts 43 (!Z1L w (ofA w.heap.C (w.old.getD i M)).1||Lb (w.old.getD i M∈w.Q)) (Fx 16 i Fz)))))))
end
def Znh(w:Work):CP (rndF f87 0) (Zkv w w.old.length).st (.ext 0) (Tg.st ⟨tm 84 [(1,.pt 8001 0 0),(2,.pt 8002 0 0)],[(8002,.box 138 zW),(8001,.box 138 w.cells)],60⟩):=by
 exact sF [] [] (FO 13 14 wdv w.old Fz)
def Zlp(w:Work)(x:Int):∃ l n,Z7w w x=⟨⟨w.heap.C,l,w.heap.P,w.heap.S,w.heap.B⟩,w.old,w.T,w.Q,w.D,⟨w.rep.copied,w.rep.kept,n,w.rep.freed,w.rep.cleared,w.rep.steps⟩⟩/\l.length<=w.heap.W.length/\(WOk w.heap.W->WOk l)/\w.rep.filled<=n/\n<=w.rep.filled+1:=by
 unfold Z7w;split
 .refine⟨_,_,rfl,Z8D _ _ _,λh=>Z6x h ?_ _,by omega,by omega⟩;intro y hy;have hh:0<=(hdW w x).length/\(hdW w x).length<=255:=Z13 w.heap.W x;simp only[objW,Lz,LH,Z7T hh]at hy;rcases hy with rfl | ⟨_,rfl⟩<;>omega
 .exact⟨w.heap.W,w.rep.filled,rfl,Ln _,λh=>h,by omega,by omega⟩
def Z6i(w:Work)(hw:FOk w):∀ k,FOk (fillN w k)/\(fillN w k).heap.C=w.heap.C/\(fillN w k).heap.P=w.heap.P/\(fillN w k).heap.S=w.heap.S/\(fillN w k).heap.B=w.heap.B/\(fillN w k).old=w.old/\(fillN w k).T=w.T/\(fillN w k).Q=w.Q/\(fillN w k).rep.freed=w.rep.freed/\(fillN w k).rep.cleared=w.rep.cleared/\w.rep.filled<=(fillN w k).rep.filled/\(fillN w k).rep.filled<=w.rep.filled+k
 | 0=>⟨hw,rfl,rfl,rfl,rfl,rfl,rfl,rfl,rfl,rfl,by simp[fillN],by simp[fillN]⟩
 | k+1=>by
  obtain⟨i0,i1,i2,i3,i4,i5,i6,i7,i8,i9,i10,i11⟩:=Z6i w hw k;obtain⟨l,n,e,e1,e2,e3,e4⟩:=Zlp (fillN w k) (w.old.getD k M);have:fillN w (k+1)=_:=e;rw[this];have hl:=i0.wl;exact⟨⟨e2 i0.W,by simp only;omega,i0.pl,i0.ol,i0.o,i0.tl,i0.ql⟩,i1,i2,i3,i4,i5,i6,i7,i8,i9,by simp only;omega,by simp only;omega⟩
section
variable (w:Work) (hw:FOk w) (hr:w.rep.filled=0)
include hw hr
theorem ZkF:CP (blkF f87 0) (Tg.st ⟨tm 84 [(1,.pt 8001 0 0),(2,.pt 8002 0 0),(3,int 0)],[(8002,.box 138 zW),(8001,.box 138 w.cells)],60⟩) .nrm (Tg.st ⟨tm 84 [(1,.pt 8001 0 0),(2,.pt 8002 0 0)],[(8002,.box 138 zW),(8001,.box 138 (fillN w w.old.length).cells)],60⟩):=by
 have hol:=hw.ol;refine Z08 (S:=λk=>(Zkv (fillN w k) k).st) w.old.length kr (λk hk=>?_) ?_
 .have h:=Z6i w hw k;have:=Zig (fillN w k) k h.1 (by rw[h.2.2.2.2.2.1];exact hk) oq;rw[h.2.2.2.2.2.1]at this;exact this
 .have h:=Z6i w hw w.old.length;have:=Znh (fillN w w.old.length);rw[h.2.2.2.2.2.1]at this;exact this
theorem ZcB:GP 87 [w.av] Lc (fillN w w.old.length).av []:=by
 exact gF [] func87 [] (Fu (@ZkF w aa aa) Fz)
end
def Z6Q(s:Int)(p:Page):Prop:=p.K≠0/\p.S=s
instance (s:Int) (p:Page):Decidable (Z6Q s p):=by unfold Z6Q;infer_instance
def Z2E(s:Int)(p:Page):Page:=if Z6Q s p then⟨0,0,0,0⟩else p
def Z2N(pw s:Int)(l:List Page)(ws:List Int):Nat->List Int
 | 0=>ws
 | i+1=>if Z6Q s (l.getD i M)then spl (Z2N pw s l ws i) (i*pw.toNat) (Le pw.toNat 0)else Z2N pw s l ws i
def Z4E(n s:Int)(l:List Page):Nat->Int
 | 0=>n
 | i+1=>if Z6Q s (l.getD i M)then Z4E n s l i+1 else Z4E n s l i
def Zgm(w:Work)(ps:List Page)(ws:List Int)(n:Int)(i:Nat):Tg:=⟨tm 78 [(1,.pt 8001 0 0),(2,.pt 8002 0 0),(3,int i)],[(8001,.box 138 [int w.heap.C.pw,int w.heap.C.pg,.ow 24017,.ow 16010,int w.heap.S,int w.heap.B,Z01 w.old,Z0K w.T,Z01 w.Q,int w.D,int w.rep.copied,int w.rep.kept,int w.rep.filled,int n,int w.rep.cleared,int w.rep.steps]),(24017,.arr 35 1 (ws.map wdv)),(16010,.arr 86 4 (ps.map Page.dv)),(8002,.box 138 zW)],60⟩
def Zl4(w:Work)(ps:List Page)(ws:List Int)(n:Int)(i:Nat)(hl:ps.length<=64)(hi:i<ps.length)(hb:¬ Z6Q w.heap.S (ps.getD i M)):CP (rndF f86 0) (Zgm w ps ws n i).st .nrm (Zgm w ps ws n (i+1)).st:=by
 unfold Z6Q at hb;have hb':¬ ((ps.getD (i:Int).toNat M).K≠0/\(ps.getD (i:Int).toNat M).S=w.heap.S):=hb;exact sF [] [] (FM 24 25 Page.dv ps i (Fmq 33 Page.dv ps (↑i) (Ftb 44 ((ps.getD (i:Int).toNat M).K==0||(ps.getD (i:Int).toNat M).S != w.heap.S) (Fx 27 i Fz))))
def ZhS(w:Work)(ps:List Page)(ws:List Int)(n:Int)(i k:Nat):Tg:=⟨tm 78 [(1,.pt 8001 0 0),(2,.pt 8002 0 0),(3,int i),(5,int k)],[(8001,.box 138 [int w.heap.C.pw,int w.heap.C.pg,.ow 24017,.ow 16010,int w.heap.S,int w.heap.B,Z01 w.old,Z0K w.T,Z01 w.Q,int w.D,int w.rep.copied,int w.rep.kept,int w.rep.filled,int n,int w.rep.cleared,int w.rep.steps]),(16010,.arr 86 4 (ps.map Page.dv)),(24017,.arr 35 1 ((wr ws (Le w.heap.C.pw.toNat 0) (i*w.heap.C.pw.toNat) k).map wdv)),(8002,.box 138 zW)],64⟩
section
variable (w:Work) (ps:List Page) (ws:List Int) (n:Int) (i k:Nat) (hp:0<=w.heap.C.pw/\w.heap.C.pw<=64) (hi:i<=64) (hl:i*w.heap.C.pw.toNat+w.heap.C.pw.toNat<=ws.length) (hw:ws.length<=4096)
include hp hi hl hw
theorem Ziz(hk:k<w.heap.C.pw.toNat):CP (rndF f86 2) (ZhS w ps ws n i k).st .nrm (ZhS w ps ws n i (k+1)).st:=by
 have hs:=ZbG (ws:=ws) (l:=Le w.heap.C.pw.toNat 0) (i:=i*w.heap.C.pw.toNat) (k:=k) (by simpa using hl) (by simpa using hk) (0:Int);rw[show(Le w.heap.C.pw.toNat (0:Int)).getD k 0=0 by simp[List.getD,hk]]at hs;have hn:=Z4X (ws:=ws) (l:=Le w.heap.C.pw.toNat (0:Int)) (i:=i*w.heap.C.pw.toNat) (k:=k) (by simpa using hl) qo;have em:(i:Int)*w.heap.C.pw=((i*w.heap.C.pw.toNat:Nat):Int):=by rw[Int.natCast_mul,Int.toNat_of_nonneg hp.1]
 have ei:(i:Int)*w.heap.C.pw+k=((i*w.heap.C.pw.toNat+k:Nat):Int):=by omega
 exact sF [] (fO 6) (Fh 10076 [.els (Lf wdv ((wr ws (Le w.heap.C.pw.toNat 0) (i*w.heap.C.pw.toNat) k).set (↑(i*w.heap.C.pw.toNat+k):Int).toNat 0))] (Ftb 62 (Lb ((k:Int)<w.heap.C.pw)) (Fi 73 ((i:Int)*w.heap.C.pw) (Fg 75 (by rw[wrapI' oq oq];omega:IntKind.i64.wrap ((i:Int)*w.heap.C.pw+(k:Int))=(↑(i*w.heap.C.pw.toNat+k):Int)) (Fa (by(simp only[Lp];omega):0<=(↑(i*w.heap.C.pw.toNat+k):Int)/\(↑(i*w.heap.C.pw.toNat+k):Int).toNat<(Lf wdv (wr ws (Le w.heap.C.pw.toNat 0) (i*w.heap.C.pw.toNat) k)).length) (Fa (by(simp only[Lp];omega):(↑(i*w.heap.C.pw.toNat+k):Int).toNat<(Lf wdv (wr ws (Le w.heap.C.pw.toNat 0) (i*w.heap.C.pw.toNat) k)).length) (Fa (ms:(Lf wdv (wr ws (Le w.heap.C.pw.toNat 0) (i*w.heap.C.pw.toNat) k)).set (↑(i*w.heap.C.pw.toNat+k):Int).toNat [du64 0]=Lf wdv ((wr ws (Le w.heap.C.pw.toNat 0) (i*w.heap.C.pw.toNat) k).set (↑(i*w.heap.C.pw.toNat+k):Int).toNat 0)) (Fx 64 k (Fr (35:Int) (Fa (by refine congrArg _ ?_;exact hs:Lf wdv ((wr ws (Le w.heap.C.pw.toNat 0) (i*w.heap.C.pw.toNat) k).set (↑(i*w.heap.C.pw.toNat+k):Int).toNat 0)=Lf wdv (wr ws (Le w.heap.C.pw.toNat 0) (i*w.heap.C.pw.toNat) (k+1))) Fz))))))))))
theorem Zn5:CP (rndF f86 2) (ZhS w ps ws n i w.heap.C.pw.toNat).st (.ext 2) (Tg.st ⟨tm 78 [(1,.pt 8001 0 0),(2,.pt 8002 0 0),(3,int i)],[(8001,.box 138 [int w.heap.C.pw,int w.heap.C.pg,.ow 24017,.ow 16010,int w.heap.S,int w.heap.B,Z01 w.old,Z0K w.T,Z01 w.Q,int w.D,int w.rep.copied,int w.rep.kept,int w.rep.filled,int n,int w.rep.cleared,int w.rep.steps]),(16010,.arr 86 4 (ps.map Page.dv)),(24017,.arr 35 1 ((spl ws (i*w.heap.C.pw.toNat) (Le w.heap.C.pw.toNat 0)).map wdv)),(8002,.box 138 zW)],64⟩):=by
 have hs:=Zd2 ws (Le w.heap.C.pw.toNat (0:Int)) (i*w.heap.C.pw.toNat);rw[Ls]at hs;exact sF [] (fO 5) (Ffb 62 (Lb ((w.heap.C.pw.toNat:Int)<w.heap.C.pw)) (Fr (35:Int) (Fa (by refine congrArg _ ?_;assumption:Lf wdv (wr ws (Le w.heap.C.pw.toNat 0) (i*w.heap.C.pw.toNat) w.heap.C.pw.toNat)=Lf wdv (spl ws (i*w.heap.C.pw.toNat) (Le w.heap.C.pw.toNat 0))) Fz)))
theorem Zlu:CP (blkF f86 2) (Tg.st ⟨tm 78 [(1,.pt 8001 0 0),(2,.pt 8002 0 0),(3,int i),(5,int 0)],[(8001,.box 138 [int w.heap.C.pw,int w.heap.C.pg,.ow 24017,.ow 16010,int w.heap.S,int w.heap.B,Z01 w.old,Z0K w.T,Z01 w.Q,int w.D,int w.rep.copied,int w.rep.kept,int w.rep.filled,int n,int w.rep.cleared,int w.rep.steps]),(16010,.arr 86 4 (ps.map Page.dv)),(24017,.arr 35 1 (ws.map wdv)),(8002,.box 138 zW)],64⟩) .nrm (Tg.st ⟨tm 78 [(1,.pt 8001 0 0),(2,.pt 8002 0 0),(3,int i)],[(8001,.box 138 [int w.heap.C.pw,int w.heap.C.pg,.ow 24017,.ow 16010,int w.heap.S,int w.heap.B,Z01 w.old,Z0K w.T,Z01 w.Q,int w.D,int w.rep.copied,int w.rep.kept,int w.rep.filled,int n,int w.rep.cleared,int w.rep.steps]),(16010,.arr 86 4 (ps.map Page.dv)),(24017,.arr 35 1 ((spl ws (i*w.heap.C.pw.toNat) (Le w.heap.C.pw.toNat 0)).map wdv)),(8002,.box 138 zW)],64⟩):=by
 have:=Z08 (S:=λk=>(ZhS w ps ws n i k).st) w.heap.C.pw.toNat kr (λk hk=>Ziz w ps ws n i k hp hi hl hw hk) (Zn5 w ps ws n i hp hi hl hw)
 simp only[ZhS,Z8a]at this;exact this
end
def ZkS(w:Work)(ps:List Page)(ws:List Int)(n:Int)(i:Nat)(hl:ps.length<=64)(hi:i<ps.length)(hb:Z6Q w.heap.S (ps.getD i M))(hp:0<=w.heap.C.pw/\w.heap.C.pw<=64)(hs:i*w.heap.C.pw.toNat+w.heap.C.pw.toNat<=ws.length)(hw:ws.length<=4096)(hn:0<=n/\n<=64):CP (rndF f86 0) (Zgm w ps ws n i).st .nrm (Zgm w (ps.set i ⟨0,0,0,0⟩) (spl ws (i*w.heap.C.pw.toNat) (Le w.heap.C.pw.toNat 0)) (n+1) (i+1)).st:=by
 unfold Z6Q at hb;have hb':(ps.getD (i:Int).toNat M).K≠0/\(ps.getD (i:Int).toNat M).S=w.heap.S:=hb;exact sF [] [] (Fh 10050 [.els (Lf Page.dv (ps.set (i:Int).toNat (Page.mk 0 0 0 0)))] (FM 24 25 Page.dv ps i (Fmq 33 Page.dv ps (↑i) (Ffb 44 ((ps.getD (i:Int).toNat M).K==0||(ps.getD (i:Int).toNat M).S != w.heap.S) (Fa (by(simp only[Lp];omega):0<=(i:Int)/\(i:Int).toNat<(Lf Page.dv ps).length) (Fa (by(simp only[Lp];omega):(i:Int).toNat<(Lf Page.dv ps).length) (Fa (by rw[LG];rfl:(Lf Page.dv ps).set (i:Int).toNat [dint 0,dint 0,dint 0,dint 0]=Lf Page.dv (ps.set (i:Int).toNat (Page.mk 0 0 0 0))) (Fi 54 (n+1) (Fu (@Zlu w (ps.set (i:Int).toNat (Page.mk 0 0 0 0)) ws (n+1) i aa oq aa aa) (Fx 27 i Fz))))))))))
def Z5i{pw s:Int}{l:List Page}{ws:List Int}(h:l.length*pw.toNat<=ws.length):∀ i,i<=l.length->(Z2N pw s l ws i).length=ws.length
 | 0,_=>rfl
 | i+1,hi=>by
  have ih:=Z5i (s:=s) h i oq;have hm:(i+1)*pw.toNat<=l.length*pw.toNat:=L6 _ hi;rw[L5,L7]at hm;unfold Z2N;split
  .rw[Z50 qo,ih]
  .exact ih
def Z5P(n s:Int)(l:List Page):∀ i:Nat,n<=Z4E n s l i/\Z4E n s l i<=n+i
 | 0=>by simp[Z4E]
 | i+1=>by
  have ih:=Z5P n s l i;unfold Z4E;split<;>omega
def Z1x(w:Work):Work:=⟨⟨w.heap.C,Z2N w.heap.C.pw w.heap.S w.heap.P w.heap.W w.heap.P.length,w.heap.P.map (Z2E w.heap.S),w.heap.S,w.heap.B⟩,w.old,w.T,w.Q,w.D,⟨w.rep.copied,w.rep.kept,w.rep.filled,Z4E w.rep.freed w.heap.S w.heap.P w.heap.P.length,w.rep.cleared,w.rep.steps⟩⟩
def Znc(w:Work)(ps:List Page)(ws:List Int)(n:Int):CP (rndF f86 0) (Zgm w ps ws n ps.length).st (.ext 0) (Tg.st ⟨tm 78 [(1,.pt 8001 0 0),(2,.pt 8002 0 0)],[(8001,.box 138 [int w.heap.C.pw,int w.heap.C.pg,.ow 24017,.ow 16010,int w.heap.S,int w.heap.B,Z01 w.old,Z0K w.T,Z01 w.Q,int w.D,int w.rep.copied,int w.rep.kept,int w.rep.filled,int n,int w.rep.cleared,int w.rep.steps]),(24017,.arr 35 1 (ws.map wdv)),(16010,.arr 86 4 (ps.map Page.dv)),(8002,.box 138 zW)],60⟩):=by
 exact sF [] [] (FO 24 25 Page.dv ps Fz)
section
variable (w:Work) (hl:w.heap.P.length<=64) (hp:0<=w.heap.C.pw/\w.heap.C.pw<=64) (hs:w.heap.P.length*w.heap.C.pw.toNat<=w.heap.W.length) (hw:w.heap.W.length<=4096) (hr:w.rep.freed=0)
include hl hp hs hw hr
theorem Zke:CP (blkF f86 0) (Tg.st ⟨tm 78 [(1,.pt 8001 0 0),(2,.pt 8002 0 0),(3,int 0)],[(8001,.box 138 [int w.heap.C.pw,int w.heap.C.pg,.ow 24017,.ow 16010,int w.heap.S,int w.heap.B,Z01 w.old,Z0K w.T,Z01 w.Q,int w.D,int w.rep.copied,int w.rep.kept,int w.rep.filled,int w.rep.freed,int w.rep.cleared,int w.rep.steps]),(24017,.arr 35 1 (w.heap.W.map wdv)),(16010,.arr 86 4 (w.heap.P.map Page.dv)),(8002,.box 138 zW)],60⟩) .nrm (Tg.st ⟨tm 78 [(1,.pt 8001 0 0),(2,.pt 8002 0 0)],[(8001,.box 138 [int w.heap.C.pw,int w.heap.C.pg,.ow 24017,.ow 16010,int w.heap.S,int w.heap.B,Z01 w.old,Z0K w.T,Z01 w.Q,int w.D,int w.rep.copied,int w.rep.kept,int w.rep.filled,int (Z4E w.rep.freed w.heap.S w.heap.P w.heap.P.length),int w.rep.cleared,int w.rep.steps]),(24017,.arr 35 1 ((Z2N w.heap.C.pw w.heap.S w.heap.P w.heap.W w.heap.P.length).map wdv)),(16010,.arr 86 4 ((w.heap.P.map (Z2E w.heap.S)).map Page.dv)),(8002,.box 138 zW)],60⟩):=by
 refine Z08 (S:=λk=>(Zgm w (preM (Z2E w.heap.S) w.heap.P k) (Z2N w.heap.C.pw w.heap.S w.heap.P w.heap.W k) (Z4E w.rep.freed w.heap.S w.heap.P k) k).st) w.heap.P.length kr (λk hk=>?_) ?_
 .have h1:=Z3I (Z2E w.heap.S) w.heap.P k;have h2:=Z7V (Z2E w.heap.S) w.heap.P (Ln k) M;have h3:=Z5i (s:=w.heap.S) hs k oq;have h4:=Z5P w.rep.freed w.heap.S w.heap.P k;by_cases hb:Z6Q w.heap.S (w.heap.P.getD k M)
  .have e1:=Z6r (Z2E w.heap.S) w.heap.P hk M;have e2:Z2N w.heap.C.pw w.heap.S w.heap.P w.heap.W (k+1)=spl (Z2N w.heap.C.pw w.heap.S w.heap.P w.heap.W k) (k*w.heap.C.pw.toNat) (Le w.heap.C.pw.toNat 0):=by rw[Z2N,if_pos hb]
   have e3:Z4E w.rep.freed w.heap.S w.heap.P (k+1)=Z4E w.rep.freed w.heap.S w.heap.P k+1:=by rw[Z4E,if_pos hb]
   rw[Z2E,if_pos hb]at e1;rw[<- e1,e2,e3];have hm:(k+1)*w.heap.C.pw.toNat<=w.heap.P.length*w.heap.C.pw.toNat:=L6 _ hk;rw[L5,L7]at hm;exact ZkS w _ _ _ k oq oq (by rw[h2];exact hb) hp oq oq oq
  .have e1:=Z8E (Z2E w.heap.S) w.heap.P hk M (by rw[Z2E,if_neg hb]);have e2:Z2N w.heap.C.pw w.heap.S w.heap.P w.heap.W (k+1)=Z2N w.heap.C.pw w.heap.S w.heap.P w.heap.W k:=by rw[Z2N,if_neg hb]
   have e3:Z4E w.rep.freed w.heap.S w.heap.P (k+1)=Z4E w.rep.freed w.heap.S w.heap.P k:=by rw[Z4E,if_neg hb]
   rw[<- e1,e2,e3];exact Zl4 w _ _ _ k oq oq (by rw[h2];exact hb)
 .have h:=Znc w (preM (Z2E w.heap.S) w.heap.P w.heap.P.length) (Z2N w.heap.C.pw w.heap.S w.heap.P w.heap.W w.heap.P.length) (Z4E w.rep.freed w.heap.S w.heap.P w.heap.P.length);rw[Z3I,Z7F]at h;simp only[Z7F];exact h
theorem Zc8:GP 86 [w.av] Lc (Z1x w).av []:=by
 have h1:=Z5i (s:=w.heap.S) hs w.heap.P.length (Ln _);have h2:=Z5P w.rep.freed w.heap.S w.heap.P w.heap.P.length;exact gF [] func86 [] (FAx 6 10 Page.dv w.heap.P (by(simp[Z1x, *];omega)) (FAx 13 17 wdv w.heap.W (by(simp[Z1x, *];omega)) (Fu (@Zke w aa aa aa aa aa) Fz)))
end
def rep0:Rep:=⟨0,0,0,0,0,0⟩
def Z4N{h:Heap}{l:List Int}(e:Z0f h l=La):Z0r h=⟨0,0,0⟩:=by
 simp only[Z0f,Lv,decide_eq_true_eq]at e;exact e.1
section
variable (h:Heap) (s k:List Int) (hw:WOk h.W) (hs:s.length<=1048575) (hk:k.length<=1048575) (hs2:ULe s) (hk2:ULe k)
include hw hs hk hs2 hk2
theorem Zmk(hp:Z02 h=Lc):GP 36 [h.av,Z01 s,Z01 k] Lc (.tu [noHeap.av,Z01 [],Z01 [],.ag rep0.cells,int 1]) []:=by
 exact gF [] func36 [] (Fc 20 (@Z0h h) (Ftb 21 (!Z02 h) (Fnl (Fnl (Fnl (Fnl Fz))))))
theorem ZkH(hp:Z02 h=La)(hr:Z0f h s=Lc\/Z0f h k=Lc):GP 36 [h.av,Z01 s,Z01 k] Lc (.tu [noHeap.av,Z01 [],Z01 [],.ag rep0.cells,int 19]) []:=by
 by_cases h1:Z0f h s=Lc
 .exact gF [] func36 [] (Fc 20 (@Z0h h) (Ffb 21 (!Z02 h) (Fc 26 (@Z1u h s aa oq) (FcG 31 (!!Z0f h s) (λhg=>by(try simp only[bs]at hg);exact @ZcD h k aa (by(try simp only[bs]at hg);grind[noHeap,rep0])) (Fts 33 (!Z0f h s||La) (Fnl (Fnl (Fnl (Fnl Fz)))))))))
 .have h2:Z0f h k=Lc:=by
   rcases hr with hr | hr
   .exact absurd hr h1
   .exact hr
  exact gF [] func36 [] (Fc 20 (@Z0h h) (Ffb 21 (!Z02 h) (Fc 26 (@Z1u h s aa oq) (FcG 31 (!!Z0f h s) (λhg=>by(try simp only[bs]at hg);exact @Z1u h k aa oq) (Ftb 33 (!Z0f h s||!Z0f h k) (Fnl (Fnl (Fnl (Fnl Fz)))))))))
theorem Zln(hp:Z02 h=La)(hr:Z0f h s=La)(hr':Z0f h k=La)(e:¬ (rootsF (beginW h) s).2.2=0):GP 36 [h.av,Z01 s,Z01 k] Lc (.tu [noHeap.av,Z01 [],Z01 [],.ag rep0.cells,int (rootsF (beginW h) s).2.2]) []:=by
 have hb:=Z5t hw hp;have hg:=Z4N hr;exact gF [] func36 [] (Fc 20 (@Z0h h) (Ffb 21 (!Z02 h) (Fc 26 (@Z1u h s aa oq) (FcG 31 (!!Z0f h s) (λhg=>by(try simp only[bs]at hg);exact @Z1u h k aa oq) (Ffs 33 (!Z0f h s||!Z0f h k) (Fc 38 (@Z4y h aa aa aa) (Fc 44 (@Z5s (beginW h) s aa aa aa) (Ftb 49 ((rootsF (beginW h) s).2.2 != 0) (Fnl (Fnl (Fnl (Fnl Fz))))))))))))
theorem ZlR(hp:Z02 h=La)(hr:Z0f h s=La)(hr':Z0f h k=La)(e:(rootsF (beginW h) s).2.2=0)(e2:¬ (allF (rootsF (beginW h) s).1).2=0):GP 36 [h.av,Z01 s,Z01 k] Lc (.tu [noHeap.av,Z01 [],Z01 [],.ag rep0.cells,int (allF (rootsF (beginW h) s).1).2]) []:=by
 have hb:=Z5t hw hp;have hi:=Z4M hp;have hg:=Z4N hr;have ho:=Z4U (roots:=s) hb hi e;have ho1:=ho.1;let y0:=rootsF (beginW h) s;exact gF [] func36 [] (Fc 20 (@Z0h h) (Ffb 21 (!Z02 h) (Fc 26 (@Z1u h s aa oq) (FcG 31 (!!Z0f h s) (λhg=>by(try simp only[bs]at hg);exact @Z1u h k aa oq) (Ffs 33 (!Z0f h s||!Z0f h k) (Fc 38 (@Z4y h aa aa aa) (Fc 44 (@Z5s (beginW h) s aa aa aa) (Ffb 49 (y0.2.2 != 0) (Fc 55 (@Zbs (y0.1) aa) (Ftb 59 ((allF y0.1).2 != 0) (Fnl (Fnl (Fnl (Fnl Fz))))))))))))))
end
end Go.Proofs.YtgedmeaemofdkaaGreat
