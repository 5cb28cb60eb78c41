import Derived.Test.YtihlkhahiafhhaaGreatPL
import Derived.Test.YtihlkhahiafhhaaGreatTD
set_option linter.unusedVariables false
section
namespace Go.Ab.M
open Go.Proofs
set_option linter.unusedSimpArgs false
theorem RGr.filter {g:Graph} {I M O:Nat} (h:RGr g I M O) (p:Edge->Bool):RGr ⟨g.Ins,g.aF,g.au,g.ah.filter p,g.Gone⟩ I M O:=
 ⟨h.i,h.m,h.o,h.i1,h.i2,h.m2,h.o1,h.o2,fun w hw=>h.e w (List.mem_filter.1 hw).1,h.s.filter p,fun v hv=>⟨(h.gn v hv).1,(h.gn v hv).2.1,fun w hw=>(h.gn v hv).2.2 w (List.mem_filter.1 hw).1⟩,h.gs⟩
theorem RGr.prune {g:Graph} {I M O:Nat} (h:RGr g I M O):RGr (g.prune I M) I M O:=h.filter _
end Go.Ab.M
namespace Go.Ab.M
end Go.Ab.M
end
