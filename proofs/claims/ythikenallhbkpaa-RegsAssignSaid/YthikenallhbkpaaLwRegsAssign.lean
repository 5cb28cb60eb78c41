import Derived.Test.YthikenallhbkpaaTO
namespace Go.Ab.M
open Go.Proofs
set_option linter.unusedVariables false
set_option maxRecDepth 100000

def law27_RegsAssign (c : Code) : Option Bool :=
 (law27_awake).bind fun x0 =>
 (ref25_Few c 16).bind fun x1 =>
 bif !x1 then
 some x0
 else
 (regs_Assign c).bind fun x2 =>
 (ref25_Right c).bind fun x3 =>
 bif !x3 then
 bif x0 then
 bif x2.2 == 11 then
 (ref25_Same x2.1 (Code.mk 0 0 0 0 [])).bind fun x4 =>
 some x4
 else
 some false
 else
 some false
 else
 bif x0 then
 bif x2.2 == 0 then
 (ref25_Right x2.1).bind fun x4 =>
 bif x4 then
 (ref27_Like c x2.1).bind fun x5 =>
 bif x5 then
 (ref27_Live c).bind fun x6 =>
 some (x2.1.Regs == x6)
 else
 some false
 else
 some false
 else
 some false
 else
 some false

theorem law27_RegsAssign_ok (c : Code) : ∀ r, law27_RegsAssign c = some r → ACallsD Try.prog 4 0 [AG Code.D c] [] (B r) [] :=
  acalls_T (enc := fun r => B r) (encH := fun r => []) 10 (.call [] [] (law27_awake_ok) .no fun x0 => .call [] [] (ref25_Few_ok c 16) .no fun x1 => .br 100000012 (.ret x0) (.call [] [] (regs_Assign_ok c) .no fun x2 => .call [] [] (ref25_Right_ok c) .no fun x3 => .br 100000022 (.br 80004 (.br 80012 (.call [] [] (ref25_Same_ok x2.1 (Code.mk 0 0 0 0 [])) .no fun x4 => .ret x4) (.ret false)) (.ret false)) (.br 90004 (.br 90012 (.call [] [] (ref25_Right_ok x2.1) .no fun x4 => .br 90020 (.call [] [] (ref27_Like_ok c x2.1) .no fun x5 => .br 90030 (.call [] [] (ref27_Live_ok c) .no fun x6 => .ret (x2.1.Regs == x6)) (.ret false)) (.ret false)) (.ret false)) (.ret false)))) Try.func4 (by kernel_rfl) (by kernel_rfl) (by kernel_rfl)

end Go.Ab.M
