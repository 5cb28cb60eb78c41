import Derived.Test.YthikenallhbkpaaTO
namespace Go.Ab.M
open Go.Proofs
set_option linter.unusedVariables false
set_option maxRecDepth 100000

def law27_RegsAgain (toArray : Int) (a : Int) (a1 : Int) (a2 : List S_Op_To_A_B) : Option Bool :=
 (law27_awake).bind fun x0 =>
 bif decide (((a2.length : Nat) : Int) > 16) then
 some x0
 else
 (ref25_Made toArray a a1 a2 16).bind fun x1 =>
 (regs_Assign x1).bind fun x2 =>
 (regs_Assign x2.1).bind fun x3 =>
 bif x0 then
 bif x2.2 == 0 then
 bif x3.2 == 0 then
 bif x3.1.Regs == x2.1.Regs then
 (regs_Live x2.1).bind fun x4 =>
 bif x4 == x2.1.Regs then
 (regs_Live x1).bind fun x5 =>
 bif x5 == x2.1.Regs then
 (vm_Right x3.1).bind fun x6 =>
 some x6
 else
 some false
 else
 some false
 else
 some false
 else
 some false
 else
 some false
 else
 some false

theorem law27_RegsAgain_ok (toArray : Int) (a : Int) (a1 : Int) (a2 : List S_Op_To_A_B) : ∀ r, law27_RegsAgain toArray a a1 a2 = some r → ACallsD Try.prog 5 0 [NI .u8 toArray, NI .u8 a, NI .u8 a1, SL S_Op_To_A_B.D a2] [] (B r) [] :=
  acalls_T (enc := fun r => B r) (encH := fun r => []) 10 (.call [] [] (law27_awake_ok) .no fun x0 => .op 20002 (.ln S_Op_To_A_B.D a2) (.br 100000018 (.ret x0) (.call [] [] (ref25_Made_ok toArray a a1 a2 16) .no fun x1 => .call [] [] (regs_Assign_ok x1) .no fun x2 => .call [] [] (regs_Assign_ok x2.1) .no fun x3 => .br 70004 (.br 70012 (.br 70020 (.br 70034 (.call [] [] (regs_Live_ok x2.1) .no fun x4 => .br 70048 (.call [] [] (regs_Live_ok x1) .no fun x5 => .br 70062 (.call [] [] (vm_Right_ok x3.1) .no fun x6 => .ret x6) (.ret false)) (.ret false)) (.ret false)) (.ret false)) (.ret false)) (.ret false)))) Try.func5 (by kernel_rfl) (by kernel_rfl) (by kernel_rfl)

end Go.Ab.M
