import Derived.Test.YtpefcgiiigdcdaaGreatTW
import Derived.Test.YtpefcgiiigdcdaaGreatCX
namespace Go.Ab.M
open Go.Proofs
set_option linter.unusedVariables false
set_option maxRecDepth 100000
structure S_o_a_b where
  o : TOp
  a : Rat
  b : Rat
  deriving DecidableEq, Inhabited
abbrev S_o_a_b.D (x : S_o_a_b) : List D := TOp.D x.o ++ Rat.D x.a ++ Rat.D x.b

structure S_a_b where
  a : Rat
  b : Rat
  deriving DecidableEq, Inhabited
abbrev S_a_b.D (x : S_a_b) : List D := Rat.D x.a ++ Rat.D x.b

structure Jac where
  Rows : Int
  Cols : Int
  All : List Rat
  deriving DecidableEq, Inhabited
abbrev Jac.D (x : Jac) : List D := [.v (.int .i64 x.Rows), .v (.int .i64 x.Cols), .sl (x.All.map Rat.D)]

end Go.Ab.M
