/-
  TEXTS PUT TOGETHER: ClX.
-/
import Derived.Test.YtpefcgiiigdcdaaGreatLS
import Derived.Test.YtpefcgiiigdcdaaGreatTW
import Derived.Shelf.SlSortCmp.WholeK
import Derived.WalkKit
section
/-
  SLICES.SORTFUNC AT EDGES: the kit's contract laid at this program, for the program's orders.
  Conditions: none.
-/
namespace Go.Ab
open Go.Proofs Go.Proofs.YtpefcgiiigdcdaaGreat Go.Shelf Go.RowKit Go.Lib Go.Sort
set_option maxRecDepth 100000
set_option linter.unusedVariables false
set_option linter.unusedSimpArgs false
end Go.Ab
namespace Go.Ab.M
open Go.Ab Go.Proofs Go.Proofs.YtpefcgiiigdcdaaGreat Go.Shelf Go.RowKit Go.Lib Go.Sort
end Go.Ab.M
end
