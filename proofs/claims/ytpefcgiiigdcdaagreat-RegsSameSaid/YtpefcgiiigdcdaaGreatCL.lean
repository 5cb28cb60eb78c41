/-
  TEXTS PUT TOGETHER: ClE, ClD.
-/
import Derived.Test.YtpefcgiiigdcdaaGreatLC
import Derived.Lib.SliceRun
import Derived.Deep.RegionLaw
section
/-
  A CLONE OF AN EMPTY SLICE IS EMPTY.
-/
namespace Go.Ab
open Go.Proofs Go.Proofs.YtpefcgiiigdcdaaGreat Go.ChangeShapes Go.WideShapes Go.ChangeAt Go.RowKit
set_option linter.unusedVariables false
variable {P : Program}
end Go.Ab
end

section
/-
  SLICES.DELETE AT NUMBERS, on a row that is handed over.
-/
namespace Go.Ab
open Go.Proofs Go.Proofs.YtpefcgiiigdcdaaGreat Go.RowKit Go.Lib
set_option linter.unusedVariables false

end Go.Ab
end
