import Derived.Test.YtihlkhahiafhhaaGreatLS
import Derived.Test.YtihlkhahiafhhaaGreatTO
import Derived.Shelf.SlSortCmp.WholeK
import Derived.WalkKit
section
namespace Go.Ab
open Go.Proofs Go.Proofs.YtihlkhahiafhhaaGreat Go.Shelf Go.RowKit Go.Lib Go.Sort
set_option maxRecDepth 100000
set_option linter.unusedVariables false
set_option linter.unusedSimpArgs false
def akx:Go.Shelf.Ren:=⟨fun | 6=>94 | 14=>161 | 15=>82 | 20=>212 | 21=>213 | 22=>214 | 23=>215 | 24=>216 | 25=>217 | 26=>218 | 27=>219 | 28=>141 | 29=>142 | 46=>245 | 47=>189 | 48=>190 | 49=>246 | 50=>247 | 57=>259 | n=>n,fun | 0=>0 | 3=>3 | 4=>4 | 5=>5 | 9=>9 | 22=>71 | 24=>77 | 25=>194 | 39=>182 | 45=>220 | 46=>221 | 50=>226 | 53=>108 | 55=>165 | 66=>274 | 70=>278 | 76=>316 | 77=>200 | n=>n,fun | n=>n⟩
theorem ac5:SlLaysF0.n6 Tryz.prog akx where
 mixed:=by rfl
 f6:=⟨ "slices.SortFunc[[]talweg/api.Pair,talweg/api.Pair]",by rfl,Go.Proofs.Tryz.func94.trans (congrArg some (by rfl))⟩
 f14:=⟨ "slices.pdqsortCmpFunc[talweg/api.Pair]",by rfl,Go.Proofs.Tryz.func161.trans (congrArg some (by rfl))⟩
 f15:=Go.Proofs.Tryz.func82.trans (congrArg some (by rfl))
 f20:=⟨ "slices.insertionSortCmpFunc[talweg/api.Pair]",by rfl,Go.Proofs.Tryz.func212.trans (congrArg some (by rfl))⟩
 f21:=⟨ "slices.heapSortCmpFunc[talweg/api.Pair]",by rfl,Go.Proofs.Tryz.func213.trans (congrArg some (by rfl))⟩
 f22:=⟨ "slices.breakPatternsCmpFunc[talweg/api.Pair]",by rfl,Go.Proofs.Tryz.func214.trans (congrArg some (by rfl))⟩
 f23:=⟨ "slices.choosePivotCmpFunc[talweg/api.Pair]",by rfl,Go.Proofs.Tryz.func215.trans (congrArg some (by rfl))⟩
 f24:=⟨ "slices.reverseRangeCmpFunc[talweg/api.Pair]",by rfl,Go.Proofs.Tryz.func216.trans (congrArg some (by rfl))⟩
 f25:=⟨ "slices.partialInsertionSortCmpFunc[talweg/api.Pair]",by rfl,Go.Proofs.Tryz.func217.trans (congrArg some (by rfl))⟩
 f26:=⟨ "slices.partitionEqualCmpFunc[talweg/api.Pair]",by rfl,Go.Proofs.Tryz.func218.trans (congrArg some (by rfl))⟩
 f27:=⟨ "slices.partitionCmpFunc[talweg/api.Pair]",by rfl,Go.Proofs.Tryz.func219.trans (congrArg some (by rfl))⟩
 f28:=Go.Proofs.Tryz.func141.trans (congrArg some (by rfl))
 f29:=Go.Proofs.Tryz.func142.trans (congrArg some (by rfl))
 f46:=⟨ "slices.siftDownCmpFunc[talweg/api.Pair]",by rfl,Go.Proofs.Tryz.func245.trans (congrArg some (by rfl))⟩
 f47:=Go.Proofs.Tryz.func189.trans (congrArg some (by rfl))
 f48:=Go.Proofs.Tryz.func190.trans (congrArg some (by rfl))
 f49:=⟨ "slices.medianAdjacentCmpFunc[talweg/api.Pair]",by rfl,Go.Proofs.Tryz.func246.trans (congrArg some (by rfl))⟩
 f50:=⟨ "slices.medianCmpFunc[talweg/api.Pair]",by rfl,Go.Proofs.Tryz.func247.trans (congrArg some (by rfl))⟩
 f57:=⟨ "slices.order2CmpFunc[talweg/api.Pair]",by rfl,Go.Proofs.Tryz.func259.trans (congrArg some (by rfl))⟩
 t0:=Go.Proofs.Tryz.underlying0
 a0:=Go.Proofs.Tryz.isAgg0
 z0:=Go.Proofs.Tryz.sizeOf0
 v0:=Go.Proofs.Tryz.zeroValue0
 t3:=Go.Proofs.Tryz.underlying3
 a3:=Go.Proofs.Tryz.isAgg3
 z3:=Go.Proofs.Tryz.sizeOf3
 v3:=Go.Proofs.Tryz.zeroValue3
 t4:=Go.Proofs.Tryz.underlying4
 a4:=Go.Proofs.Tryz.isAgg4
 z4:=Go.Proofs.Tryz.sizeOf4
 v4:=Go.Proofs.Tryz.zeroValue4
 t5:=Go.Proofs.Tryz.underlying5
 a5:=Go.Proofs.Tryz.isAgg5
 z5:=Go.Proofs.Tryz.sizeOf5
 v5:=Go.Proofs.Tryz.zeroValue5
 t9:=Go.Proofs.Tryz.underlying9
 a9:=Go.Proofs.Tryz.isAgg9
 z9:=Go.Proofs.Tryz.sizeOf9
 v9:=Go.Proofs.Tryz.zeroValue9
 t22:=Go.Proofs.Tryz.underlying71
 a22:=Go.Proofs.Tryz.isAgg71
 z22:=Go.Proofs.Tryz.sizeOf71
 v22:=Go.Proofs.Tryz.zeroValue71
 t25:=Go.Proofs.Tryz.underlying194
 a25:=Go.Proofs.Tryz.isAgg194
 z25:=Go.Proofs.Tryz.sizeOf194
 v25:=Go.Proofs.Tryz.zeroValue194
 t39:=Go.Proofs.Tryz.underlying182
 a39:=Go.Proofs.Tryz.isAgg182
 z39:=Go.Proofs.Tryz.sizeOf182
 v39:=Go.Proofs.Tryz.zeroValue182
 t45:=Go.Proofs.Tryz.underlying220
 a45:=Go.Proofs.Tryz.isAgg220
 z45:=Go.Proofs.Tryz.sizeOf220
 v45:=Go.Proofs.Tryz.zeroValue220
 t46:=Go.Proofs.Tryz.underlying221
 a46:=Go.Proofs.Tryz.isAgg221
 z46:=Go.Proofs.Tryz.sizeOf221
 v46:=Go.Proofs.Tryz.zeroValue221
 t50:=Go.Proofs.Tryz.underlying226
 a50:=Go.Proofs.Tryz.isAgg226
 z50:=Go.Proofs.Tryz.sizeOf226
 v50:=Go.Proofs.Tryz.zeroValue226
 t53:=Go.Proofs.Tryz.underlying108
 a53:=Go.Proofs.Tryz.isAgg108
 z53:=Go.Proofs.Tryz.sizeOf108
 v53:=Go.Proofs.Tryz.zeroValue108
 t55:=Go.Proofs.Tryz.underlying165
 a55:=Go.Proofs.Tryz.isAgg165
 z55:=Go.Proofs.Tryz.sizeOf165
 v55:=Go.Proofs.Tryz.zeroValue165
 t66:=Go.Proofs.Tryz.underlying274
 a66:=Go.Proofs.Tryz.isAgg274
 z66:=Go.Proofs.Tryz.sizeOf274
 v66:=Go.Proofs.Tryz.zeroValue274
 t70:=Go.Proofs.Tryz.underlying278
 a70:=Go.Proofs.Tryz.isAgg278
 z70:=Go.Proofs.Tryz.sizeOf278
 v70:=Go.Proofs.Tryz.zeroValue278
 t76:=Go.Proofs.Tryz.underlying316
 a76:=Go.Proofs.Tryz.isAgg316
 z76:=Go.Proofs.Tryz.sizeOf316
 v76:=Go.Proofs.Tryz.zeroValue316
 t77:=Go.Proofs.Tryz.underlying200
 a77:=Go.Proofs.Tryz.isAgg200
 z77:=Go.Proofs.Tryz.sizeOf200
 v77:=Go.Proofs.Tryz.zeroValue200
end Go.Ab
namespace Go.Ab.M
open Go.Ab Go.Proofs Go.Proofs.YtihlkhahiafhhaaGreat Go.Shelf Go.RowKit Go.Lib Go.Sort
def afP (x y:Pair):Int:=if x.From<y.From then -1 else if y.From<x.From then 1 else if x.To<y.To then -1 else if y.To<x.To then 1 else 0
def leH (x y:Pair):Bool:=decide (x.From<y.From\/(x.From=y.From/\x.To<=y.To))
theorem ltH (x y:Pair):ltOf afP x y=decide (x.From<y.From\/(x.From=y.From/\x.To<y.To)):=by
 unfold ltOf afP
 repeat' split
 all_goals (rw[decide_eq_decide];omega)
theorem aqf:SWO (ltOf afP) where
 irrefl x:=by rw[ltH,decide_eq_false_iff_not];omega
 trans x y z h1 h2:=by rw[ltH,decide_eq_true_eq] at *;omega
 ntrans x y z h1 h2:=by rw[ltH,decide_eq_false_iff_not] at *;omega
theorem acY (a b c:Pair):leH a b=true->leH b c=true->leH a c=true:=by
 unfold leH
 simp only[G1,G2,decide_eq_true_eq]
 omega
theorem acI (a b:Pair):(leH a b||leH b a)=true:=by
 unfold leH
 simp only[G1,G2,Bool.or_eq_true,decide_eq_true_eq]
 omega
theorem ak2 {a b:Pair} (h1:leH a b=true) (h2:leH b a=true):a.From=b.From/\a.To=b.To:=by
 unfold leH at *
 simp only[G1,G2,decide_eq_true_eq] at *
 omega
theorem aoC {x y:Pair} (h:ltOf afP y x=false):leH x y=true:=by
 rw[ltH,decide_eq_false_iff_not] at h
 unfold leH
 rw[decide_eq_true_eq]
 omega
def Fe (l:List Pair):List Pair:=ZX leH l
def YG (l:List Pair):Prop:=l.Pairwise fun x y=>x.From≠y.From\/x.To≠y.To
instance (l:List Pair):Decidable (YG l):=by unfold YG;infer_instance
theorem YG.one:∀{l:List Pair},YG l->∀a,a∈l->∀b,b∈l->a.From=b.From->a.To=b.To->a=b
 | [],_,a,ha,_,_,_,_=>by cases ha
 | x::l,h,a,ha,b,hb,e1,e2=>by
  obtain ⟨h1,h2⟩:=List.pairwise_cons.1 h
  rcases List.mem_cons.1 ha with e | ha'
  ·rcases List.mem_cons.1 hb with e' | hb'
   ·rw[e,e']
   ·have:=h1 b hb';rw[e] at e1 e2;omega
  ·rcases List.mem_cons.1 hb with e' | hb'
   ·have:=h1 a ha';rw[e'] at e1 e2;omega
   ·exact YG.one h2 a ha' b hb' e1 e2
theorem ahj {l m:List Pair} (h:True) (hp:m.Perm l) (hs:m.Pairwise fun x y=>ltOf afP y x=false):m=Fe l:=
 List.Perm.eq_of_pairwise (le:=fun x y=>leH x y=true) (fun a b ha hb h1 h2=>by obtain ⟨e1,e2⟩:=ak2 h1 h2;cases a;cases b;simp only at e1 e2;rw[e1,e2])
  (hs.imp fun h=>aoC h) (Ig acY acI _) (hp.trans (xM l leH).symm)
theorem aqn (x y:Int):oD [x,y]=some (if x≠0 then x else y):=by
 unfold oD Di
 have h0:∀n,aQ (fun σ=>bn [x,y] σ) (n+3) 0=some (if x≠0 then .inl x else if y≠0 then .inl y else .inr ()):=fun n=>by
  have r0:bn [x,y] 0=if x≠0 then some (.inr (.inl x)) else some (.inl 1):=by
   unfold bn;try dsimp only
   by_cases h:x=0
   ·subst h;rfl
   ·have:(nth [x,y] 0 != 0)=true:=by simpa[nth,bne] using h
    rw[this,zr h];rfl
  have r1:bn [x,y] 1=if y≠0 then some (.inr (.inl y)) else some (.inl 2):=by
   unfold bn;try dsimp only
   by_cases h:y=0
   ·subst h;rfl
   ·have:(nth [x,y] 1 != 0)=true:=by simpa[nth,bne] using h
    rw[this,zr h];rfl
  have r2:bn [x,y] 2=some (.inr (.inr ())):=rfl
  by_cases hx:x=0
  ·by_cases hy:y=0
   ·rw[zp (by simpa using hx),zp (by simpa using hy)]
    simp only[aQ,r0,zp (show ¬x≠0 by simpa using hx),zj,bF,r1,zp (show ¬y≠0 by simpa using hy),r2]
   ·rw[zp (by simpa using hx),zr hy]
    simp only[aQ,r0,zp (show ¬x≠0 by simpa using hx),zj,bF,r1,zr hy]
  ·rw[zr hx]
   simp only[aQ,r0,zr hx,zj,bF]
 rw[show FU=999999997+3 from rfl,h0]
 by_cases hx:x=0
 ·by_cases hy:y=0
  ·rw[zp (by simpa using hx),zp (by simpa using hy),zp (by simpa using hx),hy];rfl
  ·rw[zp (by simpa using hx),zr hy,zp (by simpa using hx)];rfl
 ·rw[zr hx,zr hx];rfl
theorem alB (x y:Int):cmp_Compare_int x y=some (if x<y then -1 else if y<x then 1 else 0):=by
 unfold cmp_Compare_int cmp_isNaN_int
 simp only[G1,G2,zj,bne_self_eq_false,zs]
 by_cases h:x<y
 ·simp[h]
 ·by_cases h2:y<x
  ·simp[h,h2]
  ·simp[h,h2]
theorem ap2 (x:Pair):(Pair.D x).all D.one=true:=rfl
theorem akS (g:Nat) (eg:∀args w,(callFunc g args).run Tryz.prog w=.ok (.enter g args) w) (hcl:∀x y,aj Tryz.prog g 0 [AG Pair.D x,AG Pair.D y] [] (I (afP x y)) []) (l:List Pair) (hne:l≠[]) (hl:l.length<4611686018427387904) (h:True):
  aj Tryz.prog 94 1 [.msl 0 0 none none,.fn (.func g) [] []] [(0,ROW 2 Pair.D l 0)] (.tup []) [(0,ROW 2 Pair.D (Fe l) 0)]:=
 afK (k:=2) ac5 (fun x=>rfl) ap2 (by decide) Tryz.isAgg77 Tryz.sizeOf77 aqf g eg hcl l (Fe l) hne hl fun m hp hs=>ahj h hp hs
theorem agv (g:Nat):aj Tryz.prog 94 0 [SL Pair.D ([]:List Pair),.fn (.func g) [] []] [] (.tup []) []:=by
 intro F w U vs hp
 obtain ⟨v0,v1,rfl⟩:∃v0 v1,vs=#[v0,v1]:=by
  have:=hp.n
  cases vs with
  | mk l=>match l,this with
   | [x,y],_=>exact ⟨x,y,rfl⟩
 have h0:=hp.arg 0 v0 _ rfl rfl
 obtain ⟨q,cap,rfl⟩:∃q cap,v0=.slice q 0 cap:=by
  rcases VQ (by cases h0 with | d h=>exact h) with ⟨b,off,sz,cap,f,e,_⟩ | ⟨a,cap,e,_⟩
  ·exact ⟨_,_,e⟩
  ·exact ⟨_,_,e⟩
 have hn:∀r o,aH [] r=some o->False:=fun r o h=>by cases h
 refine (AnyF.slices_SortFunc_none ac5 q cap v1 w).mono ?_
 rintro e w' ⟨rfl,rfl⟩
 exact ⟨_,_,_,U,rfl,⟨rfl,rfl⟩,.tup _ _ rfl fun i v x hv=>by simp at hv,fun k o hk=>(hn k o hk).elim,fun k k' o o' a1=>(hn k o a1).elim,.refl _ _,fun q o ⟨r,ob,m1,_⟩=>(hn r ob m1).elim,fun _ _=>rfl,fun r o hr=>(hn r o hr).elim⟩
def aaS:Option Unit:=some ()
def ND (o0:List Pair):Option (List Pair):=bif !o0.isEmpty&&(Nat.ble o0.length 4000000000) then some (Fe o0) else none
theorem agJ {o0 r:List Pair} (h:ND o0=some r):o0≠[]/\o0.length<4611686018427387904/\(True)/\r=Fe o0:=by
 unfold ND at h
 cases hb:(!o0.isEmpty&&(Nat.ble o0.length 4000000000)) with
 | false=>rw[hb] at h;cases h
 | true=>
  rw[hb] at h
  cases h
  simp only[zR,Bool.not_eq_true',Bool.eq_false_iff,Ne,List.isEmpty_iff] at hb
  have:=Nat.le_of_ble_eq_true hb.2
  exact ⟨hb.1,by omega,trivial,rfl⟩
theorem aaM (x y:Pair):Ls x y=some (afP x y):=by
 unfold Ls
 simp only[alB,zj,aqn]
 congr 1
 unfold afP
 repeat' split
 all_goals omega
theorem N9:∀r,aaS=some r->aj Tryz.prog 94 0 [SL Pair.D ([]:List Pair),.fn (.func 95) [] []] [] (.tup []) []:=fun _ _=>agv _
theorem Z5 (o0:List Pair):∀r,ND o0=some r->aj Tryz.prog 94 1 [.msl 0 0 none none,.fn (.func 95) [] []] [(0,ROW 2 Pair.D o0 0)] (.tup []) [(0,ROW 2 Pair.D r 0)]:=fun r h=>by
 obtain ⟨h1,h2,h3,rfl⟩:=agJ h
 exact akS 95 (enters_of Tryz.func95 (by kernel_rfl) rfl) (fun x y=>aat x y _ (aaM x y)) o0 h1 h2 h3
end Go.Ab.M
end
