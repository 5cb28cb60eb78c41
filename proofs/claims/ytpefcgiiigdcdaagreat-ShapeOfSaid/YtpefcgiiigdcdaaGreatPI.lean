/-
  TEXTS PUT TOGETHER: PlLoc.
-/
import Derived.Test.YtpefcgiiigdcdaaGreatPH
import Derived.Test.YtpefcgiiigdcdaaGreatTO
section
/-
  AN OP'S PARTIALS: what slope.Local and the document's Local tell.
  Conditions: numbers of up to sixty-four words.
-/
namespace Go.Ab.M
open Go.Proofs
set_option linter.unusedVariables false
set_option maxRecDepth 100000

end Go.Ab.M
end
