import Derived.Test.YtjboagogechleaaGreatRows
import Derived.Shelf.SlSortCmp.WholeK
import Derived.WalkKit
import Derived.Test.YtjboagogechleaaGreatTJ
import Derived.Shelf.SlSortCmp.NoneTotal
section
namespace Go.Ab
open Go.Proofs Go.Proofs.YtjboagogechleaaGreat Go.Shelf Go.RowKit Go.Lib Go.Sort
set_option maxRecDepth 100000
end Go.Ab
end
section
namespace Go.Ab
open Go.Proofs Go.Proofs.YtjboagogechleaaGreat Go.RowKit Go.Lib Go.Shelf Go.Sort
open Go.Ab.M
set_option linter.unusedVariables false
set_option linter.unusedSimpArgs false
end Go.Ab
namespace Go.Ab.M
open Go.Proofs Go.Ab
end Go.Ab.M
end
