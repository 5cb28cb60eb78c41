/-
  TEXTS PUT TOGETHER: PlQ3.
-/
import Derived.Test.YtpefcgiiigdcdaaGreatPF
import Derived.Test.YtpefcgiiigdcdaaGreatTF
section
/-
  PLAIN LAW: RATIONAL NUMBERS, AS THE DOCUMENT RECKONS.
-/
namespace Go.Ab.M
set_option linter.unusedVariables false
set_option linter.unusedSimpArgs false

/-! ### rational numbers -/
end Go.Ab.M
end
