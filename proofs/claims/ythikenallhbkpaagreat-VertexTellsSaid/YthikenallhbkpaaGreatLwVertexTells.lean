import Derived.Test.YthikenallhbkpaaGreatTK
namespace Go.Ab.M
open Go.Proofs
set_option linter.unusedVariables false
set_option maxRecDepth 100000

def law18_VertexTells (toArray : Graph) (a : Int) : Option Bool :=
 (law18_awake).bind fun x0 =>
 (ref17_Few toArray).bind fun x1 =>
 bif !x1 then
 some x0
 else
 (vertex_Eliminate toArray a).bind fun x2 =>
 (ref18_Eliminate toArray a).bind fun x3 =>
 bif x0 then
 bif x2.2.2 == x3.2.2 then
 bif x2.2.1 == x3.2.1 then
 (ref17_Same x2.1 x3.1).bind fun x4 =>
 bif x4 then
 (vertex_Can toArray a).bind fun x5 =>
 (ref18_Can toArray a).bind fun x6 =>
 bif x5 == x6 then
 (vertex_Cost toArray a).bind fun x7 =>
 some (x7 == x3.2.1)
 else
 some false
 else
 some false
 else
 some false
 else
 some false
 else
 some false

theorem law18_VertexTells_ok (toArray : Graph) (a : Int) : ∀ r, law18_VertexTells toArray a = some r → ACallsD Tryz.prog 7 0 [AG Graph.D toArray, I a] [] (B r) [] :=
  acalls_T (enc := fun r => B r) (encH := fun r => []) 10 (.call [] [] (law18_awake_ok) .no fun x0 => .call [] [] (ref17_Few_ok toArray) .no fun x1 => .br 100000017 (.ret x0) (.call [] [] (vertex_Eliminate_ok toArray a) .no fun x2 => .call [] [] (ref18_Eliminate_ok toArray a) .no fun x3 => .br 70004 (.br 70014 (.br 70024 (.call [] [] (ref17_Same_ok x2.1 x3.1) .no fun x4 => .br 70034 (.call [] [] (vertex_Can_ok toArray a) .no fun x5 => .call [] [] (ref18_Can_ok toArray a) .no fun x6 => .br 70052 (.call [] [] (vertex_Cost_ok toArray a) .no fun x7 => .ret (x7 == x3.2.1)) (.ret false)) (.ret false)) (.ret false)) (.ret false)) (.ret false))) Tryz.func7 (by kernel_rfl) (by kernel_rfl) (by kernel_rfl)

end Go.Ab.M
