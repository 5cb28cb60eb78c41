import Derived.Test.YtpefcgiiigdcdaaTC
namespace Go.Ab.M
open Go.Proofs
set_option linter.unusedVariables false
set_option maxRecDepth 100000
structure Whole where
  Neg : Bool
  Mag : List Int
  deriving DecidableEq, Inhabited
abbrev Whole.D (x : Whole) : List D := [.v (.bool x.Neg), .sl (x.Mag.map (cI .u32))]

structure Rat where
  Neg : Bool
  Num : List Int
  Den : List Int
  deriving DecidableEq, Inhabited
abbrev Rat.D (x : Rat) : List D := [.v (.bool x.Neg), .sl (x.Num.map (cI .u32)), .sl (x.Den.map (cI .u32))]

structure Link where
  From : Int
  To : Int
  N : Int
  D_ : Int
  deriving DecidableEq, Inhabited
abbrev Link.D (x : Link) : List D := [.v (.int .u8 x.From), .v (.int .u8 x.To), .v (.int .i8 x.N), .v (.int .u8 x.D_)]

structure Edge where
  From : Int
  To : Int
  W : Rat
  deriving DecidableEq, Inhabited
abbrev Edge.D (x : Edge) : List D := [.v (.int .i64 x.From)] ++ [.v (.int .i64 x.To)] ++ Rat.D x.W

structure Graph where
  Ins : Int
  Mids : Int
  Outs : Int
  Edges : List Edge
  Gone : List Int
  deriving DecidableEq, Inhabited
abbrev Graph.D (x : Graph) : List D := [.v (.int .i64 x.Ins), .v (.int .i64 x.Mids), .v (.int .i64 x.Outs), .sl (x.Edges.map Edge.D), .sl (x.Gone.map (cI .i64))]

end Go.Ab.M
