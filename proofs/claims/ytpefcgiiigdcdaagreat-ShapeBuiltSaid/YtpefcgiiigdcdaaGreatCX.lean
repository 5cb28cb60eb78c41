import Derived.Test.YtpefcgiiigdcdaaGreatLS
import Derived.Test.YtpefcgiiigdcdaaGreatTW
import Derived.Shelf.SlSortCmp.WholeK
import Derived.WalkKit
section
namespace Go.Ab
open Go.Proofs Go.Proofs.YtpefcgiiigdcdaaGreat Go.Shelf Go.RowKit Go.Lib Go.Sort
set_option maxRecDepth 100000
set_option linter.unusedVariables false
set_option linter.unusedSimpArgs false
def aef:Go.Shelf.Ren:=⟨fun | 6=>97 | 14=>152 | 15=>146 | 20=>207 | 21=>208 | 22=>209 | 23=>210 | 24=>211 | 25=>212 | 26=>213 | 27=>214 | 28=>204 | 29=>205 | 46=>249 | 47=>245 | 48=>246 | 49=>250 | 50=>251 | 57=>266 | n=>n,fun | 0=>0 | 3=>3 | 4=>4 | 5=>5 | 9=>9 | 22=>45 | 24=>119 | 25=>171 | 39=>226 | 45=>257 | 46=>258 | 50=>235 | 53=>166 | 55=>132 | 66=>287 | 70=>291 | 76=>305 | 77=>306 | n=>n,fun | n=>n⟩
theorem XM:SlLaysF0.n6 Tryz.prog aef where
 mixed:=by kernel_rfl
 f6:=⟨ "slices.SortFunc[[]talweg/api.Edge,talweg/api.Edge]",by decide,Go.Proofs.Tryz.func97.trans (congrArg some (by kernel_rfl))⟩
 f14:=⟨ "slices.pdqsortCmpFunc[talweg/api.Edge]",by decide,Go.Proofs.Tryz.func152.trans (congrArg some (by kernel_rfl))⟩
 f15:=Go.Proofs.Tryz.func146.trans (congrArg some (by kernel_rfl))
 f20:=⟨ "slices.insertionSortCmpFunc[talweg/api.Edge]",by decide,Go.Proofs.Tryz.func207.trans (congrArg some (by kernel_rfl))⟩
 f21:=⟨ "slices.heapSortCmpFunc[talweg/api.Edge]",by decide,Go.Proofs.Tryz.func208.trans (congrArg some (by kernel_rfl))⟩
 f22:=⟨ "slices.breakPatternsCmpFunc[talweg/api.Edge]",by decide,Go.Proofs.Tryz.func209.trans (congrArg some (by kernel_rfl))⟩
 f23:=⟨ "slices.choosePivotCmpFunc[talweg/api.Edge]",by decide,Go.Proofs.Tryz.func210.trans (congrArg some (by kernel_rfl))⟩
 f24:=⟨ "slices.reverseRangeCmpFunc[talweg/api.Edge]",by decide,Go.Proofs.Tryz.func211.trans (congrArg some (by kernel_rfl))⟩
 f25:=⟨ "slices.partialInsertionSortCmpFunc[talweg/api.Edge]",by decide,Go.Proofs.Tryz.func212.trans (congrArg some (by kernel_rfl))⟩
 f26:=⟨ "slices.partitionEqualCmpFunc[talweg/api.Edge]",by decide,Go.Proofs.Tryz.func213.trans (congrArg some (by kernel_rfl))⟩
 f27:=⟨ "slices.partitionCmpFunc[talweg/api.Edge]",by decide,Go.Proofs.Tryz.func214.trans (congrArg some (by kernel_rfl))⟩
 f28:=Go.Proofs.Tryz.func204.trans (congrArg some (by kernel_rfl))
 f29:=Go.Proofs.Tryz.func205.trans (congrArg some (by kernel_rfl))
 f46:=⟨ "slices.siftDownCmpFunc[talweg/api.Edge]",by decide,Go.Proofs.Tryz.func249.trans (congrArg some (by kernel_rfl))⟩
 f47:=Go.Proofs.Tryz.func245.trans (congrArg some (by kernel_rfl))
 f48:=Go.Proofs.Tryz.func246.trans (congrArg some (by kernel_rfl))
 f49:=⟨ "slices.medianAdjacentCmpFunc[talweg/api.Edge]",by decide,Go.Proofs.Tryz.func250.trans (congrArg some (by kernel_rfl))⟩
 f50:=⟨ "slices.medianCmpFunc[talweg/api.Edge]",by decide,Go.Proofs.Tryz.func251.trans (congrArg some (by kernel_rfl))⟩
 f57:=⟨ "slices.order2CmpFunc[talweg/api.Edge]",by decide,Go.Proofs.Tryz.func266.trans (congrArg some (by kernel_rfl))⟩
 t0:=Go.Proofs.Tryz.underlying0
 a0:=Go.Proofs.Tryz.isAgg0
 z0:=Go.Proofs.Tryz.sizeOf0
 v0:=Go.Proofs.Tryz.zeroValue0
 t3:=Go.Proofs.Tryz.underlying3
 a3:=Go.Proofs.Tryz.isAgg3
 z3:=Go.Proofs.Tryz.sizeOf3
 v3:=Go.Proofs.Tryz.zeroValue3
 t4:=Go.Proofs.Tryz.underlying4
 a4:=Go.Proofs.Tryz.isAgg4
 z4:=Go.Proofs.Tryz.sizeOf4
 v4:=Go.Proofs.Tryz.zeroValue4
 t5:=Go.Proofs.Tryz.underlying5
 a5:=Go.Proofs.Tryz.isAgg5
 z5:=Go.Proofs.Tryz.sizeOf5
 v5:=Go.Proofs.Tryz.zeroValue5
 t9:=Go.Proofs.Tryz.underlying9
 a9:=Go.Proofs.Tryz.isAgg9
 z9:=Go.Proofs.Tryz.sizeOf9
 v9:=Go.Proofs.Tryz.zeroValue9
 t22:=Go.Proofs.Tryz.underlying45
 a22:=Go.Proofs.Tryz.isAgg45
 z22:=Go.Proofs.Tryz.sizeOf45
 v22:=Go.Proofs.Tryz.zeroValue45
 t25:=Go.Proofs.Tryz.underlying171
 a25:=Go.Proofs.Tryz.isAgg171
 z25:=Go.Proofs.Tryz.sizeOf171
 v25:=Go.Proofs.Tryz.zeroValue171
 t39:=Go.Proofs.Tryz.underlying226
 a39:=Go.Proofs.Tryz.isAgg226
 z39:=Go.Proofs.Tryz.sizeOf226
 v39:=Go.Proofs.Tryz.zeroValue226
 t45:=Go.Proofs.Tryz.underlying257
 a45:=Go.Proofs.Tryz.isAgg257
 z45:=Go.Proofs.Tryz.sizeOf257
 v45:=Go.Proofs.Tryz.zeroValue257
 t46:=Go.Proofs.Tryz.underlying258
 a46:=Go.Proofs.Tryz.isAgg258
 z46:=Go.Proofs.Tryz.sizeOf258
 v46:=Go.Proofs.Tryz.zeroValue258
 t50:=Go.Proofs.Tryz.underlying235
 a50:=Go.Proofs.Tryz.isAgg235
 z50:=Go.Proofs.Tryz.sizeOf235
 v50:=Go.Proofs.Tryz.zeroValue235
 t53:=Go.Proofs.Tryz.underlying166
 a53:=Go.Proofs.Tryz.isAgg166
 z53:=Go.Proofs.Tryz.sizeOf166
 v53:=Go.Proofs.Tryz.zeroValue166
 t55:=Go.Proofs.Tryz.underlying132
 a55:=Go.Proofs.Tryz.isAgg132
 z55:=Go.Proofs.Tryz.sizeOf132
 v55:=Go.Proofs.Tryz.zeroValue132
 t66:=Go.Proofs.Tryz.underlying287
 a66:=Go.Proofs.Tryz.isAgg287
 z66:=Go.Proofs.Tryz.sizeOf287
 v66:=Go.Proofs.Tryz.zeroValue287
 t70:=Go.Proofs.Tryz.underlying291
 a70:=Go.Proofs.Tryz.isAgg291
 z70:=Go.Proofs.Tryz.sizeOf291
 v70:=Go.Proofs.Tryz.zeroValue291
 t76:=Go.Proofs.Tryz.underlying305
 a76:=Go.Proofs.Tryz.isAgg305
 z76:=Go.Proofs.Tryz.sizeOf305
 v76:=Go.Proofs.Tryz.zeroValue305
 t77:=Go.Proofs.Tryz.underlying306
 a77:=Go.Proofs.Tryz.isAgg306
 z77:=Go.Proofs.Tryz.sizeOf306
 v77:=Go.Proofs.Tryz.zeroValue306
end Go.Ab
namespace Go.Ab.M
open Go.Ab Go.Proofs Go.Proofs.YtpefcgiiigdcdaaGreat Go.Shelf Go.RowKit Go.Lib Go.Sort
def WZ (x y:Edge):Int:=if x.From<y.From then -1 else if y.From<x.From then 1 else if x.To<y.To then -1 else if y.To<x.To then 1 else 0
def leG (x y:Edge):Bool:=decide (x.From<y.From∨(x.From=y.From∧x.To≤y.To))
theorem ltG (x y:Edge):ltOf WZ x y=decide (x.From<y.From∨(x.From=y.From∧x.To<y.To)):=by
 unfold ltOf WZ
 repeat' split
 all_goals (rw[decide_eq_decide];omega)
theorem ajt:SWO (ltOf WZ) where
 irrefl x:=by rw[ltG,decide_eq_false_iff_not];omega
 trans x y z h1 h2:=by rw[ltG,decide_eq_true_eq] at *;omega
 ntrans x y z h1 h2:=by rw[ltG,decide_eq_false_iff_not] at *;omega
theorem acB (a b c:Edge):leG a b=true→leG b c=true→leG a c=true:=by
 unfold leG
 simp only[decide_eq_true_eq]
 omega
theorem ac7 (a b:Edge):(leG a b||leG b a)=true:=by
 unfold leG
 simp only[Bool.or_eq_true,decide_eq_true_eq]
 omega
theorem aeJ {a b:Edge} (h1:leG a b=true) (h2:leG b a=true):a.From=b.From∧a.To=b.To:=by
 unfold leG at *
 simp only[decide_eq_true_eq] at *
 omega
theorem ag4 {x y:Edge} (h:ltOf WZ y x=false):leG x y=true:=by
 rw[ltG,decide_eq_false_iff_not] at h
 unfold leG
 rw[decide_eq_true_eq]
 omega
def EU (l:List Edge):List Edge:=l.mergeSort leG
def zY (l:List Edge):Prop:=l.Pairwise fun x y=>x.From≠y.From∨x.To≠y.To
instance (l:List Edge):Decidable (zY l):=by unfold zY;infer_instance
theorem zY.one:∀{l:List Edge},zY l→∀a,a∈l→∀b,b∈l→a.From=b.From→a.To=b.To→a=b
 | [],_,a,ha,_,_,_,_=>by cases ha
 | x::l,h,a,ha,b,hb,e1,e2=>by
  obtain ⟨h1,h2⟩:=List.pairwise_cons.1 h
  rcases List.mem_cons.1 ha with e | ha'
  ·rcases List.mem_cons.1 hb with e' | hb'
   ·rw[e,e']
   ·have:=h1 b hb';rw[e] at e1 e2;omega
  ·rcases List.mem_cons.1 hb with e' | hb'
   ·have:=h1 a ha';rw[e'] at e1 e2;omega
   ·exact zY.one h2 a ha' b hb' e1 e2
theorem Nb {l m:List Edge} (h:zY l) (hp:m.Perm l) (hs:m.Pairwise fun x y=>ltOf WZ y x=false):m=EU l:=
 List.Perm.eq_of_pairwise (le:=fun x y=>leG x y=true) (fun a b ha hb h1 h2=>by obtain ⟨e1,e2⟩:=aeJ h1 h2;exact h.one a (hp.mem_iff.1 ha) b ((List.mergeSort_perm l leG).mem_iff.1 hb) e1 e2)
  (hs.imp fun h=>ag4 h) (List.pairwise_mergeSort acB ac7 _) (hp.trans (List.mergeSort_perm l leG).symm)
theorem aii (x y:Int):lS [x,y]=some (if x≠0 then x else y):=by
 unfold lS wB
 have h0:∀n,aK (fun σ=>aS [x,y] σ) (n+3) 0=some (if x≠0 then .inl x else if y≠0 then .inl y else .inr ()):=fun n=>by
  have r0:aS [x,y] 0=if x≠0 then some (.inr (.inl x)) else some (.inl 1):=by
   unfold aS
   by_cases h:x=0
   ·subst h;rfl
   ·have:(nth [x,y] 0 != 0)=true:=by simpa[nth,bne] using h
    rw[this,if_pos h];rfl
  have r1:aS [x,y] 1=if y≠0 then some (.inr (.inl y)) else some (.inl 2):=by
   unfold aS
   by_cases h:y=0
   ·subst h;rfl
   ·have:(nth [x,y] 1 != 0)=true:=by simpa[nth,bne] using h
    rw[this,if_pos h];rfl
  have r2:aS [x,y] 2=some (.inr (.inr ())):=rfl
  by_cases hx:x=0
  ·by_cases hy:y=0
   ·rw[if_neg (by simpa using hx),if_neg (by simpa using hy)]
    simp only[aK,r0,if_neg (show ¬x≠0 by simpa using hx),Option.bind_some,aN,r1,if_neg (show ¬y≠0 by simpa using hy),r2]
   ·rw[if_neg (by simpa using hx),if_pos hy]
    simp only[aK,r0,if_neg (show ¬x≠0 by simpa using hx),Option.bind_some,aN,r1,if_pos hy]
  ·rw[if_pos hx]
   simp only[aK,r0,if_pos hx,Option.bind_some,aN]
 rw[show FU=999999997+3 from rfl,h0]
 by_cases hx:x=0
 ·by_cases hy:y=0
  ·rw[if_neg (by simpa using hx),if_neg (by simpa using hy),if_neg (by simpa using hx),hy];rfl
  ·rw[if_neg (by simpa using hx),if_pos hy,if_neg (by simpa using hx)];rfl
 ·rw[if_pos hx,if_pos hx];rfl
theorem ZM (x y:Int):cmp_Compare_int x y=some (if x<y then -1 else if y<x then 1 else 0):=by
 unfold cmp_Compare_int cmp_isNaN_int
 simp only[Option.bind_some,bne_self_eq_false,cond_false]
 by_cases h:x<y
 ·simp[h]
 ·by_cases h2:y<x
  ·simp[h,h2]
  ·simp[h,h2]
theorem oneG (x:Edge):(Edge.D x).all D.one=true:=rfl
theorem aaO (g:Nat) (eg:∀args w,(callFunc g args).run Tryz.prog w=.ok (.enter g args) w) (hcl:∀x y,aj Tryz.prog g 0 [AG Edge.D x,AG Edge.D y] [] (I (WZ x y)) []) (l:List Edge) (hne:l≠[]) (hl:l.length<4611686018427387904) (h:zY l):
  aj Tryz.prog 97 1 [.msl 0 0 none none,.fn (.func g) [] []] [(0,ROW 5 Edge.D l 0)] (.tup []) [(0,ROW 5 Edge.D (EU l) 0)]:=
 Sj (k:=5) XM (fun x=>rfl) oneG (by decide) Tryz.isAgg119 Tryz.sizeOf119 ajt g eg hcl l (EU l) hne hl fun m hp hs=>Nb h hp hs
theorem RX (g:Nat):aj Tryz.prog 97 0 [SL Edge.D ([]:List Edge),.fn (.func g) [] []] [] (.tup []) []:=by
 intro F w ι vs hp
 obtain ⟨v0,v1,rfl⟩:∃v0 v1,vs=#[v0,v1]:=by
  have:=hp.n
  cases vs with
  | mk l=>match l,this with
   | [x,y],_=>exact ⟨x,y,rfl⟩
 have h0:=hp.arg 0 v0 _ rfl rfl
 obtain ⟨q,cap,rfl⟩:∃q cap,v0=.slice q 0 cap:=by
  rcases RH (by cases h0 with | d h=>exact h) with ⟨b,off,sz,cap,f,e,_⟩ | ⟨a,cap,e,_⟩
  ·exact ⟨_,_,e⟩
  ·exact ⟨_,_,e⟩
 have hn:∀r o,au [] r=some o→False:=fun r o h=>by cases h
 refine (AnyF.slices_SortFunc_none XM q cap v1 w).mono ?_
 rintro e w' ⟨rfl,rfl⟩
 exact ⟨_,_,_,ι,rfl,⟨rfl,rfl⟩,.tup _ _ rfl fun i v x hv=>by simp at hv,fun k o hk=>(hn k o hk).elim,fun k k' o o' a1=>(hn k o a1).elim,.refl _ _,fun q o ⟨r,ob,m1,_⟩=>(hn r ob m1).elim,fun _ _=>rfl,fun r o hr=>(hn r o hr).elim⟩
def wV:Option Unit:=some ()
def qX (o0:List Edge):Option (List Edge):=bif !o0.isEmpty&&(Nat.ble o0.length 4000000000&&decide (zY o0)) then some (EU o0) else none
theorem Ny {o0 r:List Edge} (h:qX o0=some r):o0≠[]∧o0.length<4611686018427387904∧(zY o0)∧r=EU o0:=by
 unfold qX at h
 cases hb:(!o0.isEmpty&&(Nat.ble o0.length 4000000000&&decide (zY o0))) with
 | false=>rw[hb] at h;cases h
 | true=>
  rw[hb] at h
  cases h
  simp only[Bool.and_eq_true,Bool.not_eq_true',Bool.eq_false_iff,Ne,List.isEmpty_iff,decide_eq_true_eq] at hb
  have:=Nat.le_of_ble_eq_true hb.2.1
  exact ⟨hb.1,by omega,hb.2.2,rfl⟩
theorem QS (x y:Edge):Fp x y=some (WZ x y):=by
 unfold Fp
 simp only[ZM,Option.bind_some,aii]
 congr 1
 unfold WZ
 repeat' split
 all_goals omega
theorem L9:∀r,wV=some r→aj Tryz.prog 97 0 [SL Edge.D ([]:List Edge),.fn (.func 122) [] []] [] (.tup []) []:=fun _ _=>RX _
theorem WE (o0:List Edge):∀r,qX o0=some r→aj Tryz.prog 97 1 [.msl 0 0 none none,.fn (.func 122) [] []] [(0,ROW 5 Edge.D o0 0)] (.tup []) [(0,ROW 5 Edge.D r 0)]:=fun r h=>by
 obtain ⟨h1,h2,h3,rfl⟩:=Ny h
 exact aaO 122 (enters_of Tryz.func122 (by kernel_rfl) rfl) (fun x y=>QZ x y _ (QS x y)) o0 h1 h2 h3
theorem Wn (x y:Edge):uD x y=some (WZ x y):=by
 unfold uD
 simp only[ZM,Option.bind_some,aii]
 congr 1
 unfold WZ
 repeat' split
 all_goals omega
theorem A8:∀r,wV=some r→aj Tryz.prog 97 0 [SL Edge.D ([]:List Edge),.fn (.func 98) [] []] [] (.tup []) []:=fun _ _=>RX _
theorem J7 (o0:List Edge):∀r,qX o0=some r→aj Tryz.prog 97 1 [.msl 0 0 none none,.fn (.func 98) [] []] [(0,ROW 5 Edge.D o0 0)] (.tup []) [(0,ROW 5 Edge.D r 0)]:=fun r h=>by
 obtain ⟨h1,h2,h3,rfl⟩:=Ny h
 exact aaO 98 (enters_of Tryz.func98 (by kernel_rfl) rfl) (fun x y=>Jc x y _ (Wn x y)) o0 h1 h2 h3
end Go.Ab.M
end
