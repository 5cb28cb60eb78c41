import Derived.Test.YtihlkhahiafhhaaGreatTV
namespace Go.Ab.M
open Go.Proofs
set_option linter.unusedVariables false
set_option maxRecDepth 100000
structure Jac where
 Rows:Int
 ay:Int
 All:List Rat
 deriving DecidableEq,Inhabited
abbrev Jac.D (x:Jac):List D:=[.v (.int .i64 x.Rows),.v (.int .i64 x.ay),.sl (x.All.map Rat.D)]
def qx (a:Jac) (b:Jac):Option Bool:=bif a.Rows==b.Rows then bif a.ay==b.ay then (Nw a.All b.All).bind fun x0=>some x0 else some false else some false
theorem Ar (a:Jac) (b:Jac):∀r,qx a b=some r->aj Tryz.prog 13 0 [AG Jac.D a,AG Jac.D b] [] (B r) []:=
 ak 10 (.br 10012 (.br 10026 (.call [] [] (adB a.All b.All) .no fun x0=>.ret x0) (.ret false)) (.ret false)) Tryz.func13
end Go.Ab.M
