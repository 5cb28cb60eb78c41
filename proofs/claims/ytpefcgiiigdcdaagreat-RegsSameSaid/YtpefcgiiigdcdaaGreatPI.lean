/-
  TEXTS PUT TOGETHER: PlLoc.
-/
import Derived.Test.YtpefcgiiigdcdaaGreatPH
import Derived.Test.YtpefcgiiigdcdaaGreatTO
section
/-
  AN OP'S PARTIALS: what slope.Local and the document's Local tell.
  Conditions: numbers of up to sixty-four words.
-/
namespace Go.Ab.M
open Go.Proofs
set_option linter.unusedVariables false
set_option maxRecDepth 100000

theorem ref08_Of_zero : ref08_Of 0 = some (ofR 0) := ref08_Of_eq (z := 0) (by decide) (by decide)
end Go.Ab.M
end
