/-
  TEXTS PUT TOGETHER: PlPw.
-/
import Derived.Test.YtpefcgiiigdcdaaGreatPG
import Derived.Test.YtpefcgiiigdcdaaGreatTE
section
/-
  POWERS: what times.Pow, ratio.Pow and the document's Pow tell.
  Conditions: few words, exponents of at most 64.
-/
namespace Go.Ab.M
open Go.Proofs
set_option linter.unusedVariables false
set_option maxRecDepth 100000

/-! ### the document's -/
end Go.Ab.M
end
