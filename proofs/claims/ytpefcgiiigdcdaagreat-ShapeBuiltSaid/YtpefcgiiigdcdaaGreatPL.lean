import Derived.Test.YtpefcgiiigdcdaaGreatPK
import Derived.Test.YtpefcgiiigdcdaaGreatPG
import Derived.Test.YtpefcgiiigdcdaaGreatTI
section
namespace Go.Ab.M
open Go.Proofs
set_option linter.unusedVariables false
set_option linter.unusedSimpArgs false
instance (p q:Edge):Decidable (Iu p q):=by unfold Iu;infer_instance
def Graph.prune (g:Graph) (I M:Nat):Graph:=⟨g.Ins,g.bJ,g.aH,g.Edges.filter (P7 I M g.E),g.Gone⟩
end Go.Ab.M
end
section
namespace Go.Ab.M
open Go.Proofs
set_option linter.unusedVariables false
set_option linter.unusedSimpArgs false
end Go.Ab.M
namespace Go.Ab.M
set_option linter.unusedVariables false
theorem JH {g:Graph} {I M O n:Nat} (h:RGr g I M O) (hg:g.Ok n) (hn:n≤10000000):iW g=some (g.prune I M):=by
 have i2:=h.i2;have m2:=h.m2;have o2:=h.o2;have i1:=h.i1
 have t1:((I:Int)+(M:Int)+(O:Int)).toNat=I+M+O:=by omega
 have hc:dQ g.Gone=some g.Gone:=by
  have:=hg.g
  unfold dQ
  rw[decide_eq_true (by omega)];rfl
 simp (disch:=omega) only[iW,Jt hn hg,h.right,h.i,h.m,h.o,t1,agv h,aeC h hg.e,abL h hg.e,hc,Option.bind_some,Bool.not_true,cond_false,Bool.cond_decide,eU,aA,cond_true]
 rw[Graph.prune,h.i,h.m,h.o]
theorem Ok.filter {g:Graph} {n:Nat} (hg:g.Ok n) (p:Edge→Bool):(Graph.mk g.Ins g.bJ g.aH (g.Edges.filter p) g.Gone).Ok n:=by
 refine ⟨fun i hi=>?_,Nat.le_trans (List.length_filter_le _ _) hg.e,hg.g⟩
 have hm:=lW hi
 obtain ⟨j,hj,e⟩:=agj (List.mem_filter.1 hm).1
 show okL n (nth (g.Edges.filter p) i).W
 rw[←e]
 exact hg.w j hj
end Go.Ab.M
end
