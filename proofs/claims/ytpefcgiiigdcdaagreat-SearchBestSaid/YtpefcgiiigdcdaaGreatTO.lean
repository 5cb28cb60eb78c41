import Derived.Test.YtpefcgiiigdcdaaGreatTL
import Derived.Test.YtpefcgiiigdcdaaGreatCR
namespace Go.Ab.M
open Go.Proofs
set_option linter.unusedVariables false
set_option maxRecDepth 100000
structure Instr where
  Op : Int
  To : Int
  A_ : Int
  B_ : Int
  Num : Rat
  deriving DecidableEq, Inhabited
abbrev Instr.D (x : Instr) : List D := [.v (.int .i64 x.Op)] ++ [.v (.int .i64 x.To)] ++ [.v (.int .i64 x.A_)] ++ [.v (.int .i64 x.B_)] ++ Rat.D x.Num

structure Code where
  Ins : Int
  Rows : Int
  Cols : Int
  Regs : Int
  All : List Instr
  deriving DecidableEq, Inhabited
abbrev Code.D (x : Code) : List D := [.v (.int .i64 x.Ins), .v (.int .i64 x.Rows), .v (.int .i64 x.Cols), .v (.int .i64 x.Regs), .sl (x.All.map Instr.D)]

structure S_a_b_power where
  a : Bool
  b : Bool
  power : Bool
  deriving DecidableEq, Inhabited
abbrev S_a_b_power.D (x : S_a_b_power) : List D := [.v (.bool x.a), .v (.bool x.b), .v (.bool x.power)]

structure S_Op_To_A_B where
  Op : Int
  To : Int
  A_ : Int
  B_ : Int
  deriving DecidableEq, Inhabited
abbrev S_Op_To_A_B.D (x : S_Op_To_A_B) : List D := [.v (.int .u8 x.Op), .v (.int .u8 x.To), .v (.int .u8 x.A_), .v (.int .u8 x.B_)]

end Go.Ab.M
