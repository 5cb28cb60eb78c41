import Derived.Test.YtkfofbhimgepdaaGreatLS
import Derived.Test.YtkfofbhimgepdaaGreatTO
import Derived.Shelf.SlSortCmp.WholeK
import Derived.WalkKit
section
namespace Go.Ab
open Go.Proofs Go.Proofs.YtkfofbhimgepdaaGreat Go.Shelf Go.RowKit Go.Lib Go.Sort
set_option maxRecDepth 100000
set_option linter.unusedVariables false
set_option linter.unusedSimpArgs false
def af9:Go.Shelf.Ren:=⟨fun | 6=>29 | 14=>58 | 15=>59 | 20=>103 | 21=>104 | 22=>105 | 23=>106 | 24=>107 | 25=>108 | 26=>109 | 27=>110 | 28=>111 | 29=>112 | 46=>165 | 47=>166 | 48=>167 | 49=>168 | 50=>169 | 57=>210 | n=>n,fun | 0=>0 | 3=>3 | 4=>4 | 5=>5 | 9=>9 | 22=>59 | 24=>65 | 25=>91 | 39=>136 | 45=>175 | 46=>176 | 50=>172 | 53=>87 | 55=>97 | 66=>228 | 70=>232 | 76=>269 | 77=>152 | n=>n,fun | n=>n⟩
theorem YN:SlLaysF0.n6 Tryz.prog af9 where
 mixed:=by rfl
 f6:=⟨ "slices.SortFunc[[]talweg/api.Pair,talweg/api.Pair]",by rfl,Go.Proofs.Tryz.func29.trans (congrArg some (by rfl))⟩
 f14:=⟨ "slices.pdqsortCmpFunc[talweg/api.Pair]",by rfl,Go.Proofs.Tryz.func58.trans (congrArg some (by rfl))⟩
 f15:=Go.Proofs.Tryz.func59.trans (congrArg some (by rfl))
 f20:=⟨ "slices.insertionSortCmpFunc[talweg/api.Pair]",by rfl,Go.Proofs.Tryz.func103.trans (congrArg some (by rfl))⟩
 f21:=⟨ "slices.heapSortCmpFunc[talweg/api.Pair]",by rfl,Go.Proofs.Tryz.func104.trans (congrArg some (by rfl))⟩
 f22:=⟨ "slices.breakPatternsCmpFunc[talweg/api.Pair]",by rfl,Go.Proofs.Tryz.func105.trans (congrArg some (by rfl))⟩
 f23:=⟨ "slices.choosePivotCmpFunc[talweg/api.Pair]",by rfl,Go.Proofs.Tryz.func106.trans (congrArg some (by rfl))⟩
 f24:=⟨ "slices.reverseRangeCmpFunc[talweg/api.Pair]",by rfl,Go.Proofs.Tryz.func107.trans (congrArg some (by rfl))⟩
 f25:=⟨ "slices.partialInsertionSortCmpFunc[talweg/api.Pair]",by rfl,Go.Proofs.Tryz.func108.trans (congrArg some (by rfl))⟩
 f26:=⟨ "slices.partitionEqualCmpFunc[talweg/api.Pair]",by rfl,Go.Proofs.Tryz.func109.trans (congrArg some (by rfl))⟩
 f27:=⟨ "slices.partitionCmpFunc[talweg/api.Pair]",by rfl,Go.Proofs.Tryz.func110.trans (congrArg some (by rfl))⟩
 f28:=Go.Proofs.Tryz.func111.trans (congrArg some (by rfl))
 f29:=Go.Proofs.Tryz.func112.trans (congrArg some (by rfl))
 f46:=⟨ "slices.siftDownCmpFunc[talweg/api.Pair]",by rfl,Go.Proofs.Tryz.func165.trans (congrArg some (by rfl))⟩
 f47:=Go.Proofs.Tryz.func166.trans (congrArg some (by rfl))
 f48:=Go.Proofs.Tryz.func167.trans (congrArg some (by rfl))
 f49:=⟨ "slices.medianAdjacentCmpFunc[talweg/api.Pair]",by rfl,Go.Proofs.Tryz.func168.trans (congrArg some (by rfl))⟩
 f50:=⟨ "slices.medianCmpFunc[talweg/api.Pair]",by rfl,Go.Proofs.Tryz.func169.trans (congrArg some (by rfl))⟩
 f57:=⟨ "slices.order2CmpFunc[talweg/api.Pair]",by rfl,Go.Proofs.Tryz.func210.trans (congrArg some (by rfl))⟩
 t0:=Go.Proofs.Tryz.underlying0
 a0:=Go.Proofs.Tryz.isAgg0
 z0:=Go.Proofs.Tryz.sizeOf0
 v0:=Go.Proofs.Tryz.zeroValue0
 t3:=Go.Proofs.Tryz.underlying3
 a3:=Go.Proofs.Tryz.isAgg3
 z3:=Go.Proofs.Tryz.sizeOf3
 v3:=Go.Proofs.Tryz.zeroValue3
 t4:=Go.Proofs.Tryz.underlying4
 a4:=Go.Proofs.Tryz.isAgg4
 z4:=Go.Proofs.Tryz.sizeOf4
 v4:=Go.Proofs.Tryz.zeroValue4
 t5:=Go.Proofs.Tryz.underlying5
 a5:=Go.Proofs.Tryz.isAgg5
 z5:=Go.Proofs.Tryz.sizeOf5
 v5:=Go.Proofs.Tryz.zeroValue5
 t9:=Go.Proofs.Tryz.underlying9
 a9:=Go.Proofs.Tryz.isAgg9
 z9:=Go.Proofs.Tryz.sizeOf9
 v9:=Go.Proofs.Tryz.zeroValue9
 t22:=Go.Proofs.Tryz.underlying59
 a22:=Go.Proofs.Tryz.isAgg59
 z22:=Go.Proofs.Tryz.sizeOf59
 v22:=Go.Proofs.Tryz.zeroValue59
 t25:=Go.Proofs.Tryz.underlying91
 a25:=Go.Proofs.Tryz.isAgg91
 z25:=Go.Proofs.Tryz.sizeOf91
 v25:=Go.Proofs.Tryz.zeroValue91
 t39:=Go.Proofs.Tryz.underlying136
 a39:=Go.Proofs.Tryz.isAgg136
 z39:=Go.Proofs.Tryz.sizeOf136
 v39:=Go.Proofs.Tryz.zeroValue136
 t45:=Go.Proofs.Tryz.underlying175
 a45:=Go.Proofs.Tryz.isAgg175
 z45:=Go.Proofs.Tryz.sizeOf175
 v45:=Go.Proofs.Tryz.zeroValue175
 t46:=Go.Proofs.Tryz.underlying176
 a46:=Go.Proofs.Tryz.isAgg176
 z46:=Go.Proofs.Tryz.sizeOf176
 v46:=Go.Proofs.Tryz.zeroValue176
 t50:=Go.Proofs.Tryz.underlying172
 a50:=Go.Proofs.Tryz.isAgg172
 z50:=Go.Proofs.Tryz.sizeOf172
 v50:=Go.Proofs.Tryz.zeroValue172
 t53:=Go.Proofs.Tryz.underlying87
 a53:=Go.Proofs.Tryz.isAgg87
 z53:=Go.Proofs.Tryz.sizeOf87
 v53:=Go.Proofs.Tryz.zeroValue87
 t55:=Go.Proofs.Tryz.underlying97
 a55:=Go.Proofs.Tryz.isAgg97
 z55:=Go.Proofs.Tryz.sizeOf97
 v55:=Go.Proofs.Tryz.zeroValue97
 t66:=Go.Proofs.Tryz.underlying228
 a66:=Go.Proofs.Tryz.isAgg228
 z66:=Go.Proofs.Tryz.sizeOf228
 v66:=Go.Proofs.Tryz.zeroValue228
 t70:=Go.Proofs.Tryz.underlying232
 a70:=Go.Proofs.Tryz.isAgg232
 z70:=Go.Proofs.Tryz.sizeOf232
 v70:=Go.Proofs.Tryz.zeroValue232
 t76:=Go.Proofs.Tryz.underlying269
 a76:=Go.Proofs.Tryz.isAgg269
 z76:=Go.Proofs.Tryz.sizeOf269
 v76:=Go.Proofs.Tryz.zeroValue269
 t77:=Go.Proofs.Tryz.underlying152
 a77:=Go.Proofs.Tryz.isAgg152
 z77:=Go.Proofs.Tryz.sizeOf152
 v77:=Go.Proofs.Tryz.zeroValue152
end Go.Ab
namespace Go.Ab.M
open Go.Ab Go.Proofs Go.Proofs.YtkfofbhimgepdaaGreat Go.Shelf Go.RowKit Go.Lib Go.Sort
def aaq (x y:Pair):Int:=if x.From<y.From then -1 else if y.From<x.From then 1 else if x.To<y.To then -1 else if y.To<x.To then 1 else 0
def leH (x y:Pair):Bool:=decide (x.From<y.From\/(x.From=y.From/\x.To<=y.To))
theorem ltH (x y:Pair):ltOf aaq x y=decide (x.From<y.From\/(x.From=y.From/\x.To<y.To)):=by
 unfold ltOf aaq
 repeat' split
 all_goals (rw[decide_eq_decide];omega)
theorem ajR:SWO (ltOf aaq) where
 irrefl x:=by rw[ltH,decide_eq_false_iff_not];omega
 trans x y z h1 h2:=by rw[ltH,decide_eq_true_eq] at *;omega
 ntrans x y z h1 h2:=by rw[ltH,decide_eq_false_iff_not] at *;omega
theorem Yc (a b c:Pair):leH a b=true->leH b c=true->leH a c=true:=by
 unfold leH
 simp only[G1,G2,decide_eq_true_eq]
 omega
theorem YK (a b:Pair):(leH a b||leH b a)=true:=by
 unfold leH
 simp only[G1,G2,Bool.or_eq_true,decide_eq_true_eq]
 omega
theorem afi {a b:Pair} (h1:leH a b=true) (h2:leH b a=true):a.From=b.From/\a.To=b.To:=by
 unfold leH at *
 simp only[G1,G2,decide_eq_true_eq] at *
 omega
theorem aik {x y:Pair} (h:ltOf aaq y x=false):leH x y=true:=by
 rw[ltH,decide_eq_false_iff_not] at h
 unfold leH
 rw[decide_eq_true_eq]
 omega
def AO (l:List Pair):List Pair:=aa2 leH l
theorem ab3 {l m:List Pair} (h:True) (hp:m.Perm l) (hs:m.Pairwise fun x y=>ltOf aaq y x=false):m=AO l:=
 List.Perm.eq_of_pairwise (le:=fun x y=>leH x y=true) (fun a b ha hb h1 h2=>by obtain ⟨e1,e2⟩:=afi h1 h2;cases a;cases b;simp only at e1 e2;rw[e1,e2])
  (hs.imp fun h=>aik h) (CQ Yc YK _) (hp.trans (rZ l leH).symm)
theorem ajV (x y:Int):jZ [x,y]=some (if x≠0 then x else y):=by
 unfold jZ yX
 have h0:∀n,aT (fun σ=>bD [x,y] σ) (n+3) 0=some (if x≠0 then .inl x else if y≠0 then .inl y else .inr ()):=fun n=>by
  have r0:bD [x,y] 0=if x≠0 then some (.inr (.inl x)) else some (.inl 1):=by
   unfold bD;try dsimp only
   by_cases h:x=0
   ·subst h;rfl
   ·have:(nth [x,y] 0 != 0)=true:=by simpa[nth,bne] using h
    rw[this,zr h];rfl
  have r1:bD [x,y] 1=if y≠0 then some (.inr (.inl y)) else some (.inl 2):=by
   unfold bD;try dsimp only
   by_cases h:y=0
   ·subst h;rfl
   ·have:(nth [x,y] 1 != 0)=true:=by simpa[nth,bne] using h
    rw[this,zr h];rfl
  have r2:bD [x,y] 2=some (.inr (.inr ())):=rfl
  by_cases hx:x=0
  ·by_cases hy:y=0
   ·rw[zp (by simpa using hx),zp (by simpa using hy)]
    simp only[aT,r0,zp (show ¬x≠0 by simpa using hx),zj,aN,r1,zp (show ¬y≠0 by simpa using hy),r2]
   ·rw[zp (by simpa using hx),zr hy]
    simp only[aT,r0,zp (show ¬x≠0 by simpa using hx),zj,aN,r1,zr hy]
  ·rw[zr hx]
   simp only[aT,r0,zr hx,zj,aN]
 rw[show FU=999999997+3 from rfl,h0]
 by_cases hx:x=0
 ·by_cases hy:y=0
  ·rw[zp (by simpa using hx),zp (by simpa using hy),zp (by simpa using hx),hy];rfl
  ·rw[zp (by simpa using hx),zr hy,zp (by simpa using hx)];rfl
 ·rw[zr hx,zr hx];rfl
theorem afo (x y:Int):cmp_Compare_int x y=some (if x<y then -1 else if y<x then 1 else 0):=by
 unfold cmp_Compare_int cmp_isNaN_int
 simp only[G1,G2,zj,bne_self_eq_false,zs]
 by_cases h:x<y
 ·simp[h]
 ·by_cases h2:y<x
  ·simp[h,h2]
  ·simp[h,h2]
theorem aj7 (x:Pair):(Pair.D x).all D.one=true:=rfl
theorem aeO (g:Nat) (eg:∀args w,(callFunc g args).run Tryz.prog w=.ok (.enter g args) w) (hcl:∀x y,au Tryz.prog g 0 [AG Pair.D x,AG Pair.D y] [] (I (aaq x y)) []) (l:List Pair) (hne:l≠[]) (hl:l.length<4611686018427387904) (h:True):
  au Tryz.prog 29 1 [.msl 0 0 none none,.fn (.func g) [] []] [(0,ROW 2 Pair.D l 0)] (.tup []) [(0,ROW 2 Pair.D (AO l) 0)]:=
 aat (k:=2) YN (fun x=>rfl) aj7 (by decide) Tryz.isAgg65 Tryz.sizeOf65 ajR g eg hcl l (AO l) hne hl fun m hp hs=>ab3 h hp hs
theorem abo (g:Nat):au Tryz.prog 29 0 [SL Pair.D ([]:List Pair),.fn (.func g) [] []] [] (.tup []) []:=by
 intro F w U vs hp
 obtain ⟨v0,v1,rfl⟩:∃v0 v1,vs=#[v0,v1]:=by
  have:=hp.n
  cases vs with
  | mk l=>match l,this with
   | [x,y],_=>exact ⟨x,y,rfl⟩
 have h0:=hp.arg 0 v0 _ rfl rfl
 obtain ⟨q,cap,rfl⟩:∃q cap,v0=.slice q 0 cap:=by
  rcases QC (by cases h0 with | d h=>exact h) with ⟨b,off,sz,cap,f,e,_⟩ | ⟨a,cap,e,_⟩
  ·exact ⟨_,_,e⟩
  ·exact ⟨_,_,e⟩
 have hn:∀r o,aG [] r=some o->False:=fun r o h=>by cases h
 refine (AnyF.slices_SortFunc_none YN q cap v1 w).mono ?_
 rintro e w' ⟨rfl,rfl⟩
 exact ⟨_,_,_,U,rfl,⟨rfl,rfl⟩,.tup _ _ rfl fun i v x hv=>by simp at hv,fun k o hk=>(hn k o hk).elim,fun k k' o o' a1=>(hn k o a1).elim,.refl _ _,fun q o ⟨r,ob,m1,_⟩=>(hn r ob m1).elim,fun _ _=>rfl,fun r o hr=>(hn r o hr).elim⟩
def WH:Option Unit:=some ()
def IU (o0:List Pair):Option (List Pair):=bif !o0.isEmpty&&(Nat.ble o0.length 4000000000) then some (AO o0) else none
theorem abV {o0 r:List Pair} (h:IU o0=some r):o0≠[]/\o0.length<4611686018427387904/\(True)/\r=AO o0:=by
 unfold IU at h
 cases hb:(!o0.isEmpty&&(Nat.ble o0.length 4000000000)) with
 | false=>rw[hb] at h;cases h
 | true=>
  rw[hb] at h
  cases h
  simp only[zR,Bool.not_eq_true',Bool.eq_false_iff,Ne,List.isEmpty_iff] at hb
  have:=Nat.le_of_ble_eq_true hb.2
  exact ⟨hb.1,by omega,trivial,rfl⟩
theorem Vz (x y:Pair):Gg x y=some (aaq x y):=by
 unfold Gg
 simp only[afo,zj,ajV]
 congr 1
 unfold aaq
 repeat' split
 all_goals omega
theorem JD:∀r,WH=some r->au Tryz.prog 29 0 [SL Pair.D ([]:List Pair),.fn (.func 30) [] []] [] (.tup []) []:=fun _ _=>abo _
theorem Ur (o0:List Pair):∀r,IU o0=some r->au Tryz.prog 29 1 [.msl 0 0 none none,.fn (.func 30) [] []] [(0,ROW 2 Pair.D o0 0)] (.tup []) [(0,ROW 2 Pair.D r 0)]:=fun r h=>by
 obtain ⟨h1,h2,h3,rfl⟩:=abV h
 exact aeO 30 (enters_of Tryz.func30 (by kernel_rfl) rfl) (fun x y=>Vo x y _ (Vz x y)) o0 h1 h2 h3
end Go.Ab.M
end
