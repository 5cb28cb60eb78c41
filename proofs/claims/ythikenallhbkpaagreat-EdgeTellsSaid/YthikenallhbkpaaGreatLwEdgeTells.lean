import Derived.Test.YthikenallhbkpaaGreatTN
namespace Go.Ab.M
open Go.Proofs
set_option linter.unusedVariables false
set_option maxRecDepth 100000

def law19_EdgeTells (toArray : Graph) (a : Int) (a1 : Int) : Option Bool :=
 (law19_awake).bind fun x0 =>
 (ref17_Few toArray).bind fun x1 =>
 bif !x1 then
 some x0
 else
 (edge_Front toArray a a1).bind fun x2 =>
 (ref19_Go toArray a a1 false).bind fun x3 =>
 (edge_Back toArray a a1).bind fun x4 =>
 (ref19_Go toArray a a1 true).bind fun x5 =>
 bif x0 then
 bif x2.2.2 == x3.2.2 then
 bif x2.2.1 == x3.2.1 then
 (ref17_Same x2.1 x3.1).bind fun x6 =>
 bif x6 then
 bif x4.2.2 == x5.2.2 then
 bif x4.2.1 == x5.2.1 then
 (ref17_Same x4.1 x5.1).bind fun x7 =>
 bif x7 then
 (edge_Steps toArray a false).bind fun x8 =>
 (ref19_Steps toArray a false).bind fun x9 =>
 (ref19_Same x8 x9).bind fun x10 =>
 bif x10 then
 (edge_Steps toArray a1 true).bind fun x11 =>
 (ref19_Steps toArray a1 true).bind fun x12 =>
 (ref19_Same x11 x12).bind fun x13 =>
 some x13
 else
 some false
 else
 some false
 else
 some false
 else
 some false
 else
 some false
 else
 some false
 else
 some false
 else
 some false

theorem law19_EdgeTells_ok (toArray : Graph) (a : Int) (a1 : Int) : ∀ r, law19_EdgeTells toArray a a1 = some r → ACallsD Tryz.prog 3 0 [AG Graph.D toArray, I a, I a1] [] (B r) [] :=
  acalls_T (enc := fun r => B r) (encH := fun r => []) 10 (.call [] [] (law19_awake_ok) .no fun x0 => .call [] [] (ref17_Few_ok toArray) .no fun x1 => .br 100000025 (.ret x0) (.call [] [] (edge_Front_ok toArray a a1) .no fun x2 => .call [] [] (ref19_Go_ok toArray a a1 false) .no fun x3 => .call [] [] (edge_Back_ok toArray a a1) .no fun x4 => .call [] [] (ref19_Go_ok toArray a a1 true) .no fun x5 => .br 90004 (.br 90014 (.br 90024 (.call [] [] (ref17_Same_ok x2.1 x3.1) .no fun x6 => .br 90034 (.br 90044 (.br 90054 (.call [] [] (ref17_Same_ok x4.1 x5.1) .no fun x7 => .br 90064 (.call [] [] (edge_Steps_ok toArray a false) .no fun x8 => .call [] [] (ref19_Steps_ok toArray a false) .no fun x9 => .call [] [] (ref19_Same_ok x8 x9) .no fun x10 => .br 90082 (.call [] [] (edge_Steps_ok toArray a1 true) .no fun x11 => .call [] [] (ref19_Steps_ok toArray a1 true) .no fun x12 => .call [] [] (ref19_Same_ok x11 x12) .no fun x13 => .ret x13) (.ret false)) (.ret false)) (.ret false)) (.ret false)) (.ret false)) (.ret false)) (.ret false)) (.ret false))) Tryz.func3 (by kernel_rfl) (by kernel_rfl) (by kernel_rfl)

end Go.Ab.M
