/-
  TEXTS PUT TOGETHER: ClSl, ClS.
-/
import Derived.Test.YthikenallhbkpaaGreatRows
import Derived.Shelf.SlSortCmp.WholeK
import Derived.WalkKit
import Derived.Test.YthikenallhbkpaaGreatTJ
import Derived.Shelf.SlSortCmp.NoneTotal
section
/-
  SLICES.SORTFUNC AT PAIRS OF NUMBERS: the kit's contract laid at this program, and the order's own walk.
-/
namespace Go.Ab
open Go.Proofs Go.Proofs.YthikenallhbkpaaGreat Go.Shelf Go.RowKit Go.Lib Go.Sort
set_option maxRecDepth 100000
end Go.Ab
end

section
/-
  SLICES.SORTFUNC AT PAIRS OF NUMBERS, by the first, then by the second.
-/
namespace Go.Ab
open Go.Proofs Go.Proofs.YthikenallhbkpaaGreat Go.RowKit Go.Lib Go.Shelf Go.Sort
open Go.Ab.M
set_option linter.unusedVariables false
set_option linter.unusedSimpArgs false

end Go.Ab
namespace Go.Ab.M
open Go.Proofs Go.Ab
end Go.Ab.M
end
