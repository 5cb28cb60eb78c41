import Derived.Test.YthikenallhbkpaaGreatTW
import Derived.Test.YthikenallhbkpaaGreatCX
namespace Go.Ab.M
open Go.Proofs
set_option linter.unusedVariables false
set_option maxRecDepth 100000
structure Jac where
  Rows : Int
  Cols : Int
  All : List Rat
  deriving DecidableEq, Inhabited
end Go.Ab.M
