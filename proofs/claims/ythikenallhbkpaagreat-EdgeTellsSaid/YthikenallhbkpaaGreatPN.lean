/-
  TEXTS PUT TOGETHER: PlGr5.
-/
import Derived.Test.YthikenallhbkpaaGreatPL
import Derived.Test.YthikenallhbkpaaGreatTD
section
/-
  PLAIN LAW: WAYS IN RIGHT GRAPHS: what comes of pruning, of scaling, and where all ways have one edge.
  Conditions: none.
-/
namespace Go.Ab.M
open Go.Proofs
set_option linter.unusedVariables false
set_option linter.unusedSimpArgs false

/-! ### pruning -/
/-! ### scaling -/
/-! ### graphs -/
end Go.Ab.M
namespace Go.Ab.M
set_option linter.unusedVariables false
end Go.Ab.M
end
