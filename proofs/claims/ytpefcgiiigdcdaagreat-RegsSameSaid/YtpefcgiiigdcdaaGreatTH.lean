import Derived.Test.YtpefcgiiigdcdaaGreatTG
namespace Go.Ab.M
open Go.Proofs
set_option linter.unusedVariables false
set_option maxRecDepth 100000

def ref16_Jacs (a : Jac) (b : Jac) : Option Bool :=
 bif a.Rows == b.Rows then
 bif a.Cols == b.Cols then
 (ref08_All a.All b.All).bind fun x0 =>
 some x0
 else
 some false
 else
 some false

theorem ref16_Jacs_ok (a : Jac) (b : Jac) : ∀ r, ref16_Jacs a b = some r → ACallsD Tryz.prog 14 0 [AG Jac.D a, AG Jac.D b] [] (B r) [] :=
  acalls_T (enc := fun r => B r) (encH := fun r => []) 10 (.br 10012 (.br 10026 (.call [] [] (ref08_All_ok a.All b.All) .no fun x0 => .ret x0) (.ret false)) (.ret false)) Tryz.func14 (by kernel_rfl) (by kernel_rfl) (by kernel_rfl)

end Go.Ab.M
