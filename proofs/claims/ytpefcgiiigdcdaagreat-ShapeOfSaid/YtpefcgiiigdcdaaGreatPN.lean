/-
  TEXTS PUT TOGETHER: PlGr5.
-/
import Derived.Test.YtpefcgiiigdcdaaGreatPL
import Derived.Test.YtpefcgiiigdcdaaGreatTD
section
/-
  PLAIN LAW: WAYS IN RIGHT GRAPHS: what comes of pruning, of scaling, and where all ways have one edge.
  Conditions: none.
-/
namespace Go.Ab.M
open Go.Proofs
set_option linter.unusedVariables false
set_option linter.unusedSimpArgs false

/-! ### pruning -/
/-! ### scaling -/
/-! ### graphs -/
theorem RGr.filter {g : Graph} {I M O : Nat} (h : RGr g I M O) (p : Edge → Bool) : RGr ⟨g.Ins, g.Mids, g.Outs, g.Edges.filter p, g.Gone⟩ I M O :=
  ⟨h.i, h.m, h.o, h.i1, h.i2, h.m2, h.o1, h.o2, fun w hw => h.e w (List.mem_filter.1 hw).1, h.s.filter p, fun v hv => ⟨(h.gn v hv).1, (h.gn v hv).2.1, fun w hw => (h.gn v hv).2.2 w (List.mem_filter.1 hw).1⟩, h.gs⟩
theorem RGr.prune {g : Graph} {I M O : Nat} (h : RGr g I M O) : RGr (g.prune I M) I M O := h.filter _
end Go.Ab.M
namespace Go.Ab.M
set_option linter.unusedVariables false
end Go.Ab.M
end
