import Derived.Test.YtjboagogechleaaGreatTF
namespace Go.Ab.M
open Go.Proofs
set_option linter.unusedVariables false
set_option maxRecDepth 100000
structure Jac where
 Rows:Int
 jS:Int
 All:List Rat
 deriving DecidableEq,Inhabited
abbrev Jac.D (x:Jac):List D:=[.v (.int .i64 x.Rows),.v (.int .i64 x.jS),.sl (x.All.map Rat.D)]
def oD (a:Jac) (b:Jac):Option Bool:=bif a.Rows==b.Rows then bif a.jS==b.jS then (EL a.All b.All).bind fun x0=>some x0 else some false else some false
theorem FH (a:Jac) (b:Jac):∀r,oD a b=some r->au Tryz.prog 28 0 [AG Jac.D a,AG Jac.D b] [] (B r) []:=
 ay 10 (.br 10012 (.br 10026 (.call [] [] (Xw a.All b.All) .no fun x0=>.ret x0) (.ret false)) (.ret false)) Tryz.func28
end Go.Ab.M
