import Derived.Test.YtjboagogechleaaGreatTF
namespace Go.Ab.M
open Go.Proofs
set_option linter.unusedVariables false
set_option maxRecDepth 100000
structure Jac where
 Rows:Int
 aj0:Int
 All:List Rat
 deriving DecidableEq,Inhabited
abbrev Jac.D (x:Jac):List D:=[.v (.int .i64 x.Rows),.v (.int .i64 x.aj0),.sl (x.All.map Rat.D)]
end Go.Ab.M
