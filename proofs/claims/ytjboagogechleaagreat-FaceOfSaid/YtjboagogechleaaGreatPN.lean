import Derived.Test.YtjboagogechleaaGreatPL
import Derived.Test.YtjboagogechleaaGreatTD
set_option linter.unusedVariables false
section
namespace Go.Ab.M
open Go.Proofs
set_option linter.unusedSimpArgs false
theorem Fwd.filter {l:List PE} (h:Fwd l) (p:PE->Bool):Fwd (l.filter p):=⟨h.1.filter p,fun e he=>h.2 e (List.mem_filter.1 he).1⟩
theorem RGr.filter {g:Graph} {I M O:Nat} (h:RGr g I M O) (p:Edge->Bool):RGr ⟨g.Ins,g.aG,g.aH,g.ah.filter p,g.Gone⟩ I M O:=
 ⟨h.i,h.m,h.o,h.i1,h.i2,h.m2,h.o1,h.o2,fun w hw=>h.e w (List.mem_filter.1 hw).1,h.s.filter p,fun v hv=>⟨(h.gn v hv).1,(h.gn v hv).2.1,fun w hw=>(h.gn v hv).2.2 w (List.mem_filter.1 hw).1⟩,h.gs⟩
end Go.Ab.M
namespace Go.Ab.M
end Go.Ab.M
end
