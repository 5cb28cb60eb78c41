import Derived.Test.YtpefcgiiigdcdaaGreatTF
import Derived.Test.YtpefcgiiigdcdaaGreatCV
namespace Go.Ab.M
open Go.Proofs
set_option linter.unusedVariables false
set_option maxRecDepth 100000
structure TOp where
  Code : Int
  A_ : Int
  B_ : Int
  Exp : Int
  Num : Rat
  deriving DecidableEq, Inhabited
abbrev TOp.D (x : TOp) : List D := [.v (.int .i64 x.Code)] ++ [.v (.int .i64 x.A_)] ++ [.v (.int .i64 x.B_)] ++ [.v (.int .i64 x.Exp)] ++ Rat.D x.Num

structure Tape where
  Ins : Int
  Ops : List TOp
  Outs : List Int
  deriving DecidableEq, Inhabited
abbrev Tape.D (x : Tape) : List D := [.v (.int .i64 x.Ins), .sl (x.Ops.map TOp.D), .sl (x.Outs.map (cI .i64))]

end Go.Ab.M
