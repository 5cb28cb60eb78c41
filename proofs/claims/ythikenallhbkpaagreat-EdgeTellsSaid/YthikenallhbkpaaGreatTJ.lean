import Derived.Test.YthikenallhbkpaaGreatTM
namespace Go.Ab.M
open Go.Proofs
set_option linter.unusedVariables false
set_option maxRecDepth 100000
structure EndsP where
  from_ : Int
  to_ : Int
  deriving DecidableEq, Inhabited
abbrev EndsP.D (x : EndsP) : List D := [.v (.int .i64 x.from_), .v (.int .i64 x.to_)]

end Go.Ab.M
