/-
  TEXTS PUT TOGETHER: PlQ2.
-/
import Derived.Test.YtpefcgiiigdcdaaGreatPD
import Derived.Test.YtpefcgiiigdcdaaGreatTE
section
/-
  PLAIN LAW: RATIONAL NUMBERS, AS THE PROGRAM RECKONS.
-/
namespace Go.Ab.M
set_option linter.unusedVariables false
set_option linter.unusedSimpArgs false

/-! ### sums of naturals -/
/-! ### integers -/
/-! ### rational numbers -/
end Go.Ab.M
end
