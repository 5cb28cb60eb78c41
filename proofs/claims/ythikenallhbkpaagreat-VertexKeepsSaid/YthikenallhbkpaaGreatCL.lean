/-
  TEXTS PUT TOGETHER: ClE, ClE2.
-/
import Derived.Test.YthikenallhbkpaaGreatLC
section
/-
  A CLONE OF AN EMPTY SLICE IS EMPTY.
-/
namespace Go.Ab
open Go.Proofs Go.Proofs.YthikenallhbkpaaGreat Go.ChangeShapes Go.WideShapes Go.ChangeAt Go.RowKit
set_option linter.unusedVariables false
variable {P : Program}
end Go.Ab
end

section
/-
  A CLONE OF AN EMPTY SLICE OF EDGES IS EMPTY.
-/
namespace Go.Ab
open Go.Proofs Go.Proofs.YthikenallhbkpaaGreat Go.ChangeShapes Go.WideShapes Go.ChangeAt Go.RowKit
set_option linter.unusedVariables false
end Go.Ab
end
