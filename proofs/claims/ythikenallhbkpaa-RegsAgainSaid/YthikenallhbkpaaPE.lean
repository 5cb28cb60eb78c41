/-
  TEXTS PUT TOGETHER: PlG1, PlMade.
-/
import Derived.Test.YthikenallhbkpaaPD
import Derived.Test.YthikenallhbkpaaPB
import Derived.Test.YthikenallhbkpaaTC
section
/-
  PLAIN LAW: GRAPHS (right ones).
-/
namespace Go.Ab.M
set_option linter.unusedVariables false
set_option linter.unusedSimpArgs false

end Go.Ab.M
end

section
/-
  PLAIN LAW: THE GRAPHS MADE OF SMALL NUMBERS ARE RIGHT.
-/
namespace Go.Ab.M
set_option linter.unusedVariables false
set_option linter.unusedSimpArgs false

/-! ### the loops -/
end Go.Ab.M
end
