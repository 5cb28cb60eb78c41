/-
  TEXTS PUT TOGETHER: ClE, ClE2, ClD.
-/
import Derived.Test.YtcelliafjmmldaaGreatLC
import Derived.Lib.SliceRun
import Derived.Deep.RegionLaw
section
/-
  A CLONE OF AN EMPTY SLICE IS EMPTY.
-/
namespace Go.Ab
open Go.Proofs Go.Proofs.YtcelliafjmmldaaGreat Go.ChangeShapes Go.WideShapes Go.ChangeAt Go.RowKit
set_option linter.unusedVariables false
variable {P : Program}
end Go.Ab
end
section
/-
  A CLONE OF AN EMPTY SLICE OF EDGES IS EMPTY.
-/
namespace Go.Ab
open Go.Proofs Go.Proofs.YtcelliafjmmldaaGreat Go.ChangeShapes Go.WideShapes Go.ChangeAt Go.RowKit
set_option linter.unusedVariables false
end Go.Ab
end
section
/-
  SLICES.DELETE AT NUMBERS, on a row that is handed over.
-/
namespace Go.Ab
open Go.Proofs Go.Proofs.YtcelliafjmmldaaGreat Go.RowKit Go.Lib
set_option linter.unusedVariables false
end Go.Ab
end
