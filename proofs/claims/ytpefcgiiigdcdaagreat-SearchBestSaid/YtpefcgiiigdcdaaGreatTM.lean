import Derived.Test.YtpefcgiiigdcdaaGreatTI
namespace Go.Ab.M
open Go.Proofs
set_option linter.unusedVariables false
set_option maxRecDepth 100000
structure S_Op_A_B_N where
  Op : Int
  A_ : Int
  B_ : Int
  N : Int
  deriving DecidableEq, Inhabited
abbrev S_Op_A_B_N.D (x : S_Op_A_B_N) : List D := [.v (.int .u8 x.Op), .v (.int .u8 x.A_), .v (.int .u8 x.B_), .v (.int .u8 x.N)]

structure S_N_D where
  N : Int
  D_ : Int
  deriving DecidableEq, Inhabited
abbrev S_N_D.D (x : S_N_D) : List D := [.v (.int .i8 x.N), .v (.int .u8 x.D_)]

end Go.Ab.M
