import Derived.Test.YthikenallhbkpaaCL
namespace Go.Ab.M
open Go.Proofs
set_option linter.unusedVariables false
set_option maxRecDepth 100000

structure Pair where
  From : Int
  To : Int
  deriving DecidableEq, Inhabited
abbrev Pair.D (x : Pair) : List D := [.v (.int .i64 x.From), .v (.int .i64 x.To)]

structure Shape where
  Ins : Int
  Mids : Int
  Outs : Int
  All : List Pair
  deriving DecidableEq, Inhabited
abbrev Shape.D (x : Shape) : List D := [.v (.int .i64 x.Ins), .v (.int .i64 x.Mids), .v (.int .i64 x.Outs), .sl (x.All.map Pair.D)]

end Go.Ab.M
