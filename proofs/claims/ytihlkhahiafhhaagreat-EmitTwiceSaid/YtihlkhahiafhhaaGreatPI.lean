import Derived.Test.YtihlkhahiafhhaaGreatPH
import Derived.Test.YtihlkhahiafhhaaGreatTF
section
namespace Go.Ab.M
open Go.Proofs
set_option linter.unusedVariables false
set_option maxRecDepth 100000
theorem abv:AU 0=some (ofR 0):=VU (z:=0) (by decide) (by decide)
end Go.Ab.M
end
