import Derived.Test.YtcelliafjmmldaaGreatLS
import Derived.Test.YtcelliafjmmldaaGreatTW
import Derived.Shelf.SlSortCmp.WholeK
import Derived.WalkKit
section
namespace Go.Ab
open Go.Proofs Go.Proofs.YtcelliafjmmldaaGreat Go.Shelf Go.RowKit Go.Lib Go.Sort
set_option maxRecDepth 100000
set_option linter.unusedVariables false
set_option linter.unusedSimpArgs false
def adU:Go.Shelf.Ren:=⟨fun | 6=>84 | 14=>142 | 15=>143 | 20=>196 | 21=>197 | 22=>198 | 23=>199 | 24=>200 | 25=>201 | 26=>202 | 27=>203 | 28=>204 | 29=>205 | 46=>256 | 47=>257 | 48=>258 | 49=>259 | 50=>260 | 57=>293 | n=>n,fun | 0=>0 | 3=>3 | 4=>4 | 5=>5 | 9=>9 | 22=>25 | 24=>99 | 25=>142 | 39=>197 | 45=>241 | 46=>242 | 50=>227 | 53=>151 | 55=>121 | 66=>274 | 70=>278 | 76=>303 | 77=>270 | n=>n,fun | n=>n⟩
theorem Ym:SlLaysF0.n6 Tryz.prog adU where
 mixed:=by kernel_rfl
 f6:=⟨ "slices.SortFunc[[]talweg/api.Edge,talweg/api.Edge]",by decide,Go.Proofs.Tryz.func84.trans (congrArg some (by kernel_rfl))⟩
 f14:=⟨ "slices.pdqsortCmpFunc[talweg/api.Edge]",by decide,Go.Proofs.Tryz.func142.trans (congrArg some (by kernel_rfl))⟩
 f15:=Go.Proofs.Tryz.func143.trans (congrArg some (by kernel_rfl))
 f20:=⟨ "slices.insertionSortCmpFunc[talweg/api.Edge]",by decide,Go.Proofs.Tryz.func196.trans (congrArg some (by kernel_rfl))⟩
 f21:=⟨ "slices.heapSortCmpFunc[talweg/api.Edge]",by decide,Go.Proofs.Tryz.func197.trans (congrArg some (by kernel_rfl))⟩
 f22:=⟨ "slices.breakPatternsCmpFunc[talweg/api.Edge]",by decide,Go.Proofs.Tryz.func198.trans (congrArg some (by kernel_rfl))⟩
 f23:=⟨ "slices.choosePivotCmpFunc[talweg/api.Edge]",by decide,Go.Proofs.Tryz.func199.trans (congrArg some (by kernel_rfl))⟩
 f24:=⟨ "slices.reverseRangeCmpFunc[talweg/api.Edge]",by decide,Go.Proofs.Tryz.func200.trans (congrArg some (by kernel_rfl))⟩
 f25:=⟨ "slices.partialInsertionSortCmpFunc[talweg/api.Edge]",by decide,Go.Proofs.Tryz.func201.trans (congrArg some (by kernel_rfl))⟩
 f26:=⟨ "slices.partitionEqualCmpFunc[talweg/api.Edge]",by decide,Go.Proofs.Tryz.func202.trans (congrArg some (by kernel_rfl))⟩
 f27:=⟨ "slices.partitionCmpFunc[talweg/api.Edge]",by decide,Go.Proofs.Tryz.func203.trans (congrArg some (by kernel_rfl))⟩
 f28:=Go.Proofs.Tryz.func204.trans (congrArg some (by kernel_rfl))
 f29:=Go.Proofs.Tryz.func205.trans (congrArg some (by kernel_rfl))
 f46:=⟨ "slices.siftDownCmpFunc[talweg/api.Edge]",by decide,Go.Proofs.Tryz.func256.trans (congrArg some (by kernel_rfl))⟩
 f47:=Go.Proofs.Tryz.func257.trans (congrArg some (by kernel_rfl))
 f48:=Go.Proofs.Tryz.func258.trans (congrArg some (by kernel_rfl))
 f49:=⟨ "slices.medianAdjacentCmpFunc[talweg/api.Edge]",by decide,Go.Proofs.Tryz.func259.trans (congrArg some (by kernel_rfl))⟩
 f50:=⟨ "slices.medianCmpFunc[talweg/api.Edge]",by decide,Go.Proofs.Tryz.func260.trans (congrArg some (by kernel_rfl))⟩
 f57:=⟨ "slices.order2CmpFunc[talweg/api.Edge]",by decide,Go.Proofs.Tryz.func293.trans (congrArg some (by kernel_rfl))⟩
 t0:=Go.Proofs.Tryz.underlying0
 a0:=Go.Proofs.Tryz.isAgg0
 z0:=Go.Proofs.Tryz.sizeOf0
 v0:=Go.Proofs.Tryz.zeroValue0
 t3:=Go.Proofs.Tryz.underlying3
 a3:=Go.Proofs.Tryz.isAgg3
 z3:=Go.Proofs.Tryz.sizeOf3
 v3:=Go.Proofs.Tryz.zeroValue3
 t4:=Go.Proofs.Tryz.underlying4
 a4:=Go.Proofs.Tryz.isAgg4
 z4:=Go.Proofs.Tryz.sizeOf4
 v4:=Go.Proofs.Tryz.zeroValue4
 t5:=Go.Proofs.Tryz.underlying5
 a5:=Go.Proofs.Tryz.isAgg5
 z5:=Go.Proofs.Tryz.sizeOf5
 v5:=Go.Proofs.Tryz.zeroValue5
 t9:=Go.Proofs.Tryz.underlying9
 a9:=Go.Proofs.Tryz.isAgg9
 z9:=Go.Proofs.Tryz.sizeOf9
 v9:=Go.Proofs.Tryz.zeroValue9
 t22:=Go.Proofs.Tryz.underlying25
 a22:=Go.Proofs.Tryz.isAgg25
 z22:=Go.Proofs.Tryz.sizeOf25
 v22:=Go.Proofs.Tryz.zeroValue25
 t25:=Go.Proofs.Tryz.underlying142
 a25:=Go.Proofs.Tryz.isAgg142
 z25:=Go.Proofs.Tryz.sizeOf142
 v25:=Go.Proofs.Tryz.zeroValue142
 t39:=Go.Proofs.Tryz.underlying197
 a39:=Go.Proofs.Tryz.isAgg197
 z39:=Go.Proofs.Tryz.sizeOf197
 v39:=Go.Proofs.Tryz.zeroValue197
 t45:=Go.Proofs.Tryz.underlying241
 a45:=Go.Proofs.Tryz.isAgg241
 z45:=Go.Proofs.Tryz.sizeOf241
 v45:=Go.Proofs.Tryz.zeroValue241
 t46:=Go.Proofs.Tryz.underlying242
 a46:=Go.Proofs.Tryz.isAgg242
 z46:=Go.Proofs.Tryz.sizeOf242
 v46:=Go.Proofs.Tryz.zeroValue242
 t50:=Go.Proofs.Tryz.underlying227
 a50:=Go.Proofs.Tryz.isAgg227
 z50:=Go.Proofs.Tryz.sizeOf227
 v50:=Go.Proofs.Tryz.zeroValue227
 t53:=Go.Proofs.Tryz.underlying151
 a53:=Go.Proofs.Tryz.isAgg151
 z53:=Go.Proofs.Tryz.sizeOf151
 v53:=Go.Proofs.Tryz.zeroValue151
 t55:=Go.Proofs.Tryz.underlying121
 a55:=Go.Proofs.Tryz.isAgg121
 z55:=Go.Proofs.Tryz.sizeOf121
 v55:=Go.Proofs.Tryz.zeroValue121
 t66:=Go.Proofs.Tryz.underlying274
 a66:=Go.Proofs.Tryz.isAgg274
 z66:=Go.Proofs.Tryz.sizeOf274
 v66:=Go.Proofs.Tryz.zeroValue274
 t70:=Go.Proofs.Tryz.underlying278
 a70:=Go.Proofs.Tryz.isAgg278
 z70:=Go.Proofs.Tryz.sizeOf278
 v70:=Go.Proofs.Tryz.zeroValue278
 t76:=Go.Proofs.Tryz.underlying303
 a76:=Go.Proofs.Tryz.isAgg303
 z76:=Go.Proofs.Tryz.sizeOf303
 v76:=Go.Proofs.Tryz.zeroValue303
 t77:=Go.Proofs.Tryz.underlying270
 a77:=Go.Proofs.Tryz.isAgg270
 z77:=Go.Proofs.Tryz.sizeOf270
 v77:=Go.Proofs.Tryz.zeroValue270
end Go.Ab
namespace Go.Ab.M
open Go.Ab Go.Proofs Go.Proofs.YtcelliafjmmldaaGreat Go.Shelf Go.RowKit Go.Lib Go.Sort
def XT (x y:Edge):Int:=if x.From<y.From then -1 else if y.From<x.From then 1 else if x.To<y.To then -1 else if y.To<x.To then 1 else 0
def leG (x y:Edge):Bool:=decide (x.From<y.From∨(x.From=y.From∧x.To≤y.To))
theorem ltG (x y:Edge):ltOf XT x y=decide (x.From<y.From∨(x.From=y.From∧x.To<y.To)):=by
 unfold ltOf XT
 repeat' split
 all_goals (rw[decide_eq_decide];omega)
theorem ajd:SWO (ltOf XT) where
 irrefl x:=by rw[ltG,decide_eq_false_iff_not];omega
 trans x y z h1 h2:=by rw[ltG,decide_eq_true_eq] at *;omega
 ntrans x y z h1 h2:=by rw[ltG,decide_eq_false_iff_not] at *;omega
theorem adK (a b c:Edge):leG a b=true→leG b c=true→leG a c=true:=by
 unfold leG
 simp only[decide_eq_true_eq]
 omega
theorem acZ (a b:Edge):(leG a b||leG b a)=true:=by
 unfold leG
 simp only[Bool.or_eq_true,decide_eq_true_eq]
 omega
theorem aez {a b:Edge} (h1:leG a b=true) (h2:leG b a=true):a.From=b.From∧a.To=b.To:=by
 unfold leG at *
 simp only[decide_eq_true_eq] at *
 omega
theorem ahh {x y:Edge} (h:ltOf XT y x=false):leG x y=true:=by
 rw[ltG,decide_eq_false_iff_not] at h
 unfold leG
 rw[decide_eq_true_eq]
 omega
def Dx (l:List Edge):List Edge:=l.mergeSort leG
def wV (l:List Edge):Prop:=l.Pairwise fun x y=>x.From≠y.From∨x.To≠y.To
instance (l:List Edge):Decidable (wV l):=by unfold wV;infer_instance
theorem wV.one:∀{l:List Edge},wV l→∀a,a∈l→∀b,b∈l→a.From=b.From→a.To=b.To→a=b
 | [],_,a,ha,_,_,_,_=>by cases ha
 | x::l,h,a,ha,b,hb,e1,e2=>by
  obtain ⟨h1,h2⟩:=List.pairwise_cons.1 h
  rcases List.mem_cons.1 ha with e | ha'
  ·rcases List.mem_cons.1 hb with e' | hb'
   ·rw[e,e']
   ·have:=h1 b hb';rw[e] at e1 e2;omega
  ·rcases List.mem_cons.1 hb with e' | hb'
   ·have:=h1 a ha';rw[e'] at e1 e2;omega
   ·exact wV.one h2 a ha' b hb' e1 e2
theorem IJ {l m:List Edge} (h:wV l) (hp:m.Perm l) (hs:m.Pairwise fun x y=>ltOf XT y x=false):m=Dx l:=
 List.Perm.eq_of_pairwise (le:=fun x y=>leG x y=true) (fun a b ha hb h1 h2=>by obtain ⟨e1,e2⟩:=aez h1 h2;exact h.one a (hp.mem_iff.1 ha) b ((List.mergeSort_perm l leG).mem_iff.1 hb) e1 e2)
  (hs.imp fun h=>ahh h) (List.pairwise_mergeSort adK acZ _) (hp.trans (List.mergeSort_perm l leG).symm)
theorem aij (x y:Int):uo [x,y]=some (if x≠0 then x else y):=by
 unfold uo BX
 have h0:∀n,aK (fun σ=>bC [x,y] σ) (n+3) 0=some (if x≠0 then .inl x else if y≠0 then .inl y else .inr ()):=fun n=>by
  have r0:bC [x,y] 0=if x≠0 then some (.inr (.inl x)) else some (.inl 1):=by
   unfold bC
   by_cases h:x=0
   ·subst h;rfl
   ·have:(nth [x,y] 0 != 0)=true:=by simpa[nth,bne] using h
    rw[this,if_pos h];rfl
  have r1:bC [x,y] 1=if y≠0 then some (.inr (.inl y)) else some (.inl 2):=by
   unfold bC
   by_cases h:y=0
   ·subst h;rfl
   ·have:(nth [x,y] 1 != 0)=true:=by simpa[nth,bne] using h
    rw[this,if_pos h];rfl
  have r2:bC [x,y] 2=some (.inr (.inr ())):=rfl
  by_cases hx:x=0
  ·by_cases hy:y=0
   ·rw[if_neg (by simpa using hx),if_neg (by simpa using hy)]
    simp only[aK,r0,if_neg (show ¬x≠0 by simpa using hx),Option.bind_some,aH,r1,if_neg (show ¬y≠0 by simpa using hy),r2]
   ·rw[if_neg (by simpa using hx),if_pos hy]
    simp only[aK,r0,if_neg (show ¬x≠0 by simpa using hx),Option.bind_some,aH,r1,if_pos hy]
  ·rw[if_pos hx]
   simp only[aK,r0,if_pos hx,Option.bind_some,aH]
 rw[show FU=999999997+3 from rfl,h0]
 by_cases hx:x=0
 ·by_cases hy:y=0
  ·rw[if_neg (by simpa using hx),if_neg (by simpa using hy),if_neg (by simpa using hx),hy];rfl
  ·rw[if_neg (by simpa using hx),if_pos hy,if_neg (by simpa using hx)];rfl
 ·rw[if_pos hx,if_pos hx];rfl
theorem aat (x y:Int):cmp_Compare_int x y=some (if x<y then -1 else if y<x then 1 else 0):=by
 unfold cmp_Compare_int cmp_isNaN_int
 simp only[Option.bind_some,bne_self_eq_false,cond_false]
 by_cases h:x<y
 ·simp[h]
 ·by_cases h2:y<x
  ·simp[h,h2]
  ·simp[h,h2]
theorem oneG (x:Edge):(Edge.D x).all D.one=true:=rfl
theorem abr (g:Nat) (eg:∀args w,(callFunc g args).run Tryz.prog w=.ok (.enter g args) w) (hcl:∀x y,aj Tryz.prog g 0 [AG Edge.D x,AG Edge.D y] [] (I (XT x y)) []) (l:List Edge) (hne:l≠[]) (hl:l.length<4611686018427387904) (h:wV l):
  aj Tryz.prog 84 1 [.msl 0 0 none none,.fn (.func g) [] []] [(0,ROW 5 Edge.D l 0)] (.tup []) [(0,ROW 5 Edge.D (Dx l) 0)]:=
 aaF (k:=5) Ym (fun x=>rfl) oneG (by decide) Tryz.isAgg99 Tryz.sizeOf99 ajd g eg hcl l (Dx l) hne hl fun m hp hs=>IJ h hp hs
theorem Tc (g:Nat):aj Tryz.prog 84 0 [SL Edge.D ([]:List Edge),.fn (.func g) [] []] [] (.tup []) []:=by
 intro F w ι vs hp
 obtain ⟨v0,v1,rfl⟩:∃v0 v1,vs=#[v0,v1]:=by
  have:=hp.n
  cases vs with
  | mk l=>match l,this with
   | [x,y],_=>exact ⟨x,y,rfl⟩
 have h0:=hp.arg 0 v0 _ rfl rfl
 obtain ⟨q,cap,rfl⟩:∃q cap,v0=.slice q 0 cap:=by
  rcases Vd (by cases h0 with | d h=>exact h) with ⟨b,off,sz,cap,f,e,_⟩ | ⟨a,cap,e,_⟩
  ·exact ⟨_,_,e⟩
  ·exact ⟨_,_,e⟩
 have hn:∀r o,ay [] r=some o→False:=fun r o h=>by cases h
 refine (AnyF.slices_SortFunc_none Ym q cap v1 w).mono ?_
 rintro e w' ⟨rfl,rfl⟩
 exact ⟨_,_,_,ι,rfl,⟨rfl,rfl⟩,.tup _ _ rfl fun i v x hv=>by simp at hv,fun k o hk=>(hn k o hk).elim,fun k k' o o' a1=>(hn k o a1).elim,.refl _ _,fun q o ⟨r,ob,m1,_⟩=>(hn r ob m1).elim,fun _ _=>rfl,fun r o hr=>(hn r o hr).elim⟩
def xw:Option Unit:=some ()
def nC (o0:List Edge):Option (List Edge):=bif !o0.isEmpty&&(Nat.ble o0.length 4000000000&&decide (wV o0)) then some (Dx o0) else none
theorem Oo {o0 r:List Edge} (h:nC o0=some r):o0≠[]∧o0.length<4611686018427387904∧(wV o0)∧r=Dx o0:=by
 unfold nC at h
 cases hb:(!o0.isEmpty&&(Nat.ble o0.length 4000000000&&decide (wV o0))) with
 | false=>rw[hb] at h;cases h
 | true=>
  rw[hb] at h
  cases h
  simp only[Bool.and_eq_true,Bool.not_eq_true',Bool.eq_false_iff,Ne,List.isEmpty_iff,decide_eq_true_eq] at hb
  have:=Nat.le_of_ble_eq_true hb.2.1
  exact ⟨hb.1,by omega,hb.2.2,rfl⟩
theorem RZ (x y:Edge):FZ x y=some (XT x y):=by
 unfold FZ
 simp only[aat,Option.bind_some,aij]
 congr 1
 unfold XT
 repeat' split
 all_goals omega
theorem MB:∀r,xw=some r→aj Tryz.prog 84 0 [SL Edge.D ([]:List Edge),.fn (.func 85) [] []] [] (.tup []) []:=fun _ _=>Tc _
theorem Vp (o0:List Edge):∀r,nC o0=some r→aj Tryz.prog 84 1 [.msl 0 0 none none,.fn (.func 85) [] []] [(0,ROW 5 Edge.D o0 0)] (.tup []) [(0,ROW 5 Edge.D r 0)]:=fun r h=>by
 obtain ⟨h1,h2,h3,rfl⟩:=Oo h
 exact abr 85 (enters_of Tryz.func85 (by kernel_rfl) rfl) (fun x y=>QC x y _ (RZ x y)) o0 h1 h2 h3
theorem Xg (x y:Edge):uK x y=some (XT x y):=by
 unfold uK
 simp only[aat,Option.bind_some,aij]
 congr 1
 unfold XT
 repeat' split
 all_goals omega
theorem AZ:∀r,xw=some r→aj Tryz.prog 84 0 [SL Edge.D ([]:List Edge),.fn (.func 103) [] []] [] (.tup []) []:=fun _ _=>Tc _
theorem JC (o0:List Edge):∀r,nC o0=some r→aj Tryz.prog 84 1 [.msl 0 0 none none,.fn (.func 103) [] []] [(0,ROW 5 Edge.D o0 0)] (.tup []) [(0,ROW 5 Edge.D r 0)]:=fun r h=>by
 obtain ⟨h1,h2,h3,rfl⟩:=Oo h
 exact abr 103 (enters_of Tryz.func103 (by kernel_rfl) rfl) (fun x y=>J5 x y _ (Xg x y)) o0 h1 h2 h3
end Go.Ab.M
end
