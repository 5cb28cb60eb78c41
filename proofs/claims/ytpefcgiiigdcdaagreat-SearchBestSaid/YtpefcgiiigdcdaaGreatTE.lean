import Derived.Test.YtpefcgiiigdcdaaGreatTD
namespace Go.Ab.M
open Go.Proofs
set_option linter.unusedVariables false
set_option maxRecDepth 100000
structure S_Rat where
  Rat : Rat
  deriving DecidableEq, Inhabited
abbrev S_Rat.D (x : S_Rat) : List D := Rat.D x.Rat

structure S_halves where
  halves : S_Rat
  deriving DecidableEq, Inhabited
abbrev S_halves.D (x : S_halves) : List D := S_Rat.D x.halves

end Go.Ab.M
