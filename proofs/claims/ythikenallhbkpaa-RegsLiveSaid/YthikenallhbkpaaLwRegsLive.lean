import Derived.Test.YthikenallhbkpaaTO
namespace Go.Ab.M
open Go.Proofs
set_option linter.unusedVariables false
set_option maxRecDepth 100000

def law27_RegsLive (c : Code) : Option Bool :=
 (law27_awake).bind fun x0 =>
 (ref25_Few c 16).bind fun x1 =>
 bif !x1 then
 some x0
 else
 bif x0 then
 (regs_Live c).bind fun x2 =>
 (ref27_Live c).bind fun x3 =>
 some (x2 == x3)
 else
 some false

theorem law27_RegsLive_ok (c : Code) : ∀ r, law27_RegsLive c = some r → ACallsD Try.prog 3 0 [AG Code.D c] [] (B r) [] :=
  acalls_T (enc := fun r => B r) (encH := fun r => []) 10 (.call [] [] (law27_awake_ok) .no fun x0 => .call [] [] (ref25_Few_ok c 16) .no fun x1 => .br 100000009 (.ret x0) (.br 50004 (.call [] [] (regs_Live_ok c) .no fun x2 => .call [] [] (ref27_Live_ok c) .no fun x3 => .ret (x2 == x3)) (.ret false))) Try.func3 (by kernel_rfl) (by kernel_rfl) (by kernel_rfl)

end Go.Ab.M
