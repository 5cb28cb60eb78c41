import Derived.Test.YtpefcgiiigdcdaaGreatTV
import Derived.Test.YtpefcgiiigdcdaaGreatCW
namespace Go.Ab.M
open Go.Proofs
set_option linter.unusedVariables false
set_option maxRecDepth 100000

def slope_Edges_1 (a : Edge) (b : Edge) : Option Int :=
 (cmp_Compare_int a.From b.From).bind fun x0 =>
 (cmp_Compare_int a.To b.To).bind fun x1 =>
 (cmp_Or_int [x0, x1]).bind fun x2 =>
 some x2

theorem slope_Edges_1_ok (a : Edge) (b : Edge) : ∀ r, slope_Edges_1 a b = some r → ACallsD Tryz.prog 122 0 [AG Edge.D a, AG Edge.D b] [] (I r) [] :=
  acalls_T (enc := fun r => I r) (encH := fun r => []) 10 (.call [] [] (cmp_Compare_int_ok a.From b.From) .no fun x0 => .call [] [] (cmp_Compare_int_ok a.To b.To) .no fun x1 => .call [] [] (cmp_Or_int_ok [x0, x1]) (.yes fun _ => ⟨rfl, trivial⟩) fun x2 => .ret x2) Tryz.func122 (by kernel_rfl) (by kernel_rfl) (by kernel_rfl)

end Go.Ab.M
