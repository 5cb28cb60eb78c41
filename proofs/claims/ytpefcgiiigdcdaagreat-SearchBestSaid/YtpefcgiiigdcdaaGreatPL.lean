/-
  TEXTS PUT TOGETHER: PlGr3, PlGr4.
-/
import Derived.Test.YtpefcgiiigdcdaaGreatPK
import Derived.Test.YtpefcgiiigdcdaaGreatPG
import Derived.Test.YtpefcgiiigdcdaaGreatTI
section
/-
  PLAIN LAW: GRAPHS, AS THE DOCUMENT TELLS: what is right, edges of a vertex, sums over ways, reaching, pruning.
  Conditions: none.
-/
namespace Go.Ab.M
open Go.Proofs
set_option linter.unusedVariables false
set_option linter.unusedSimpArgs false

instance (p q : Edge) : Decidable (edgeLt p q) := by unfold edgeLt; infer_instance
/-! ### reaching -/
end Go.Ab.M
end

section
/-
  PLAIN LAW: SUMS OVER WAYS, AND WHETHER ALL HAVE ONE EDGE, AS THE DOCUMENT TELLS; graphs that are one.
  Conditions: none.
-/
namespace Go.Ab.M
open Go.Proofs
set_option linter.unusedVariables false
set_option linter.unusedSimpArgs false

/-! ### all ways of one edge -/
/-! ### what is one with itself -/
end Go.Ab.M
namespace Go.Ab.M
set_option linter.unusedVariables false
end Go.Ab.M
end
