import Derived.Test.YtjboagogechleaaGreatPK
import Derived.Test.YtjboagogechleaaGreatPG
import Derived.Test.YtjboagogechleaaGreatTI
set_option linter.unusedVariables false
section
namespace Go.Ab.M
open Go.Proofs
set_option linter.unusedSimpArgs false
instance (p q:Edge):Decidable (aas p q):=by unfold aas;infer_instance
theorem WA {j:Jac} (hl:j.All.length<=1000000) (hw:∀x,x∈j.All->x.Num.length<=900000000/\x.Den.length<=900000000):kN j j=some true:=by
 simp only[kN,BEq.rfl,zt,ac5 hl hw,zj]
end Go.Ab.M
namespace Go.Ab.M
theorem Ok.filter {g:Graph} {n:Nat} (hg:g.Ok n) (p:Edge->Bool):(Graph.mk g.Ins g.fO g.aK (g.ay.filter p) g.Gone).Ok n:=by
 refine ⟨fun i hi=>?_,Nat.le_trans (List.length_filter_le _ _) hg.e,hg.g⟩
 have hm:=bT hi
 obtain ⟨j,hj,e⟩:=EH (List.mem_filter.1 hm).1
 show okL n (nth (g.ay.filter p) i).W
 rw[<-e]
 exact hg.w j hj
end Go.Ab.M
end
