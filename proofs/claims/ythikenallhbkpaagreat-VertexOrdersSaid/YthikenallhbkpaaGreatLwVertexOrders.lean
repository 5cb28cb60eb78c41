import Derived.Test.YthikenallhbkpaaGreatTK
namespace Go.Ab.M
open Go.Proofs
set_option linter.unusedVariables false
set_option maxRecDepth 100000

def law18_VertexOrders (ins : Int) (mids : Int) (outs : Int) (l : List Link) (order : List Int) : Option Bool :=
 (law18_awake).bind fun x0 =>
 bif decide (((l.length : Nat) : Int) > 30) then
 some x0
 else
 bif decide (((order.length : Nat) : Int) > 8) then
 some x0
 else
 (ref17_Made ins mids outs l).bind fun x1 =>
 (vertex_All x1 order).bind fun x2 =>
 (ref18_All x1 order).bind fun x3 =>
 bif x0 then
 bif x2.2.2 == x3.2.2 then
 bif x2.2.1 == x3.2.1 then
 (ref17_Same x2.1 x3.1).bind fun x4 =>
 some x4
 else
 some false
 else
 some false
 else
 some false

theorem law18_VertexOrders_ok (ins : Int) (mids : Int) (outs : Int) (l : List Link) (order : List Int) : ∀ r, law18_VertexOrders ins mids outs l order = some r → ACallsD Tryz.prog 8 0 [NI .u8 ins, NI .u8 mids, NI .u8 outs, SL Link.D l, SL (cI .i64) order] [] (B r) [] :=
  acalls_T (enc := fun r => B r) (encH := fun r => []) 10 (.call [] [] (law18_awake_ok) .no fun x0 => .op 20002 (.ln Link.D l) (.br 20008 (.ret x0) (.op 20010 (.ln (cI .i64) order) (.br 100000027 (.ret x0) (.call [] [] (ref17_Made_ok ins mids outs l) .no fun x1 => .call [] [] (vertex_All_ok x1 order) .no fun x2 => .call [] [] (ref18_All_ok x1 order) .no fun x3 => .br 70004 (.br 70014 (.br 70024 (.call [] [] (ref17_Same_ok x2.1 x3.1) .no fun x4 => .ret x4) (.ret false)) (.ret false)) (.ret false)))))) Tryz.func8 (by kernel_rfl) (by kernel_rfl) (by kernel_rfl)

end Go.Ab.M
