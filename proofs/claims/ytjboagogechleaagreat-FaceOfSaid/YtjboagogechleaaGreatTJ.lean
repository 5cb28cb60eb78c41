import Derived.Test.YtjboagogechleaaGreatTI
namespace Go.Ab.M
open Go.Proofs
set_option linter.unusedVariables false
set_option maxRecDepth 100000
structure xk where
 from_:Int
 to_:Int
 deriving DecidableEq,Inhabited
abbrev xk.D (x:xk):List D:=[.v (.int .i64 x.from_),.v (.int .i64 x.to_)]
end Go.Ab.M
