/-
  TEXTS PUT TOGETHER: PlV9.
-/
import Derived.Test.YtpefcgiiigdcdaaGreatPR
import Derived.Test.YtpefcgiiigdcdaaGreatTD
section
/-
  PLAIN LAW: THE PATHS STAY WHAT THEY WERE.
-/
namespace Go.Ab.M
open Go.Proofs Go.Ab
set_option linter.unusedVariables false
set_option linter.unusedSimpArgs false

end Go.Ab.M
end
