import Derived.Test.YtjboagogechleaaGreatTF
namespace Go.Ab.M
open Go.Proofs
set_option linter.unusedVariables false
set_option maxRecDepth 100000
structure Jac where
 Rows:Int
 uQ:Int
 All:List Rat
 deriving DecidableEq,Inhabited
abbrev Jac.D (x:Jac):List D:=[.v (.int .i64 x.Rows),.v (.int .i64 x.uQ),.sl (x.All.map Rat.D)]
def Bh (a:Jac) (b:Jac):Option Bool:=bif a.Rows==b.Rows then bif a.uQ==b.uQ then (Js a.All b.All).bind fun x0=>some x0 else some false else some false
theorem Zq (a:Jac) (b:Jac):∀r,Bh a b=some r->ak Tryz.prog 28 0 [AG Jac.D a,AG Jac.D b] [] (B r) []:=
 ay 10 (.br 10012 (.br 10026 (.call [] [] (abR a.All b.All) .no fun x0=>.ret x0) (.ret false)) (.ret false)) Tryz.func28
end Go.Ab.M
