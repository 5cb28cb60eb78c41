import Derived.Test.YthikenallhbkpaaGreatTK
namespace Go.Ab.M
open Go.Proofs
set_option linter.unusedVariables false
set_option maxRecDepth 100000

def law18_VertexKeeps (toArray : Int) (a : Int) (a1 : Int) (a2 : List Link) (a3 : Int) : Option Bool :=
 (law18_awake).bind fun x0 =>
 bif decide (((a2.length : Nat) : Int) > 30) then
 some x0
 else
 (ref17_Made toArray a a1 a2).bind fun x1 =>
 bif x1.Mids == 0 then
 some x0
 else
 bif inK .i64 a3 then
 bif decide (0 ≤ a3) then
 bif decide (0 < x1.Mids) then
 bif inK .i64 (x1.Ins + (a3 % x1.Mids)) then
 (vertex_Eliminate x1 (x1.Ins + (a3 % x1.Mids))).bind fun x2 =>
 (graph_In x1 (x1.Ins + (a3 % x1.Mids))).bind fun x3 =>
 (graph_Out x1 (x1.Ins + (a3 % x1.Mids))).bind fun x4 =>
 bif ((x2.1.Gone.length : Nat) : Int) != 1 then
 some false
 else
 bif x0 then
 bif x2.2.2 == 0 then
 bif inK .i64 (((x3.length : Nat) : Int) * ((x4.length : Nat) : Int)) then
 bif x2.2.1 == (((x3.length : Nat) : Int) * ((x4.length : Nat) : Int)) then
 (graph_Right x2.1).bind fun x5 =>
 bif x5 then
 bif decide (0 < x2.1.Gone.length) then
 bif (nth x2.1.Gone 0) == (x1.Ins + (a3 % x1.Mids)) then
 (graph_In x2.1 (x1.Ins + (a3 % x1.Mids))).bind fun x6 =>
 bif ((x6.length : Nat) : Int) == 0 then
 (graph_Out x2.1 (x1.Ins + (a3 % x1.Mids))).bind fun x7 =>
 bif ((x7.length : Nat) : Int) == 0 then
 (graph_Paths x2.1).bind fun x8 =>
 (graph_Paths x1).bind fun x9 =>
 (ref16_Jacs x8 x9).bind fun x10 =>
 bif x10 then
 (vertex_Can x2.1 (x1.Ins + (a3 % x1.Mids))).bind fun x11 =>
 bif !x11 then
 bif inK .i64 (((x1.Edges.length : Nat) : Int) - ((x3.length : Nat) : Int)) then
 bif inK .i64 ((((x1.Edges.length : Nat) : Int) - ((x3.length : Nat) : Int)) - ((x4.length : Nat) : Int)) then
 some (decide (((x2.1.Edges.length : Nat) : Int) ≥ ((((x1.Edges.length : Nat) : Int) - ((x3.length : Nat) : Int)) - ((x4.length : Nat) : Int))))
 else none
 else none
 else
 some false
 else
 some false
 else
 some false
 else
 some false
 else
 some false
 else none
 else
 some false
 else
 some false
 else none
 else
 some false
 else
 some false
 else none
 else none
 else none
 else none

theorem law18_VertexKeeps_ok (toArray : Int) (a : Int) (a1 : Int) (a2 : List Link) (a3 : Int) : ∀ r, law18_VertexKeeps toArray a a1 a2 a3 = some r → ACallsD Tryz.prog 10 0 [NI .u8 toArray, NI .u8 a, NI .u8 a1, SL Link.D a2, NI .u8 a3] [] (B r) [] :=
  acalls_T (enc := fun r => B r) (encH := fun r => []) 10 (.call [] [] (law18_awake_ok) .no fun x0 => .op 20002 (.ln Link.D a2) (.br 100000022 (.ret x0) (.call [] [] (ref17_Made_ok toArray a a1 a2) .no fun x1 => .br 100000031 (.ret x0) (.call [] [] (vertex_Eliminate_ok x1 (x1.Ins + (a3 % x1.Mids))) .no fun x2 => .call [] [] (graph_In_ok x1 (x1.Ins + (a3 % x1.Mids))) .no fun x3 => .op 90006 (.ln Edge.D x3) (.call [] [] (graph_Out_ok x1 (x1.Ins + (a3 % x1.Mids))) .no fun x4 => .op 100006 (.ln Edge.D x4) (.op 110004 (.ln (cI .i64) x2.1.Gone) (.br 100000059 (.ret false) (.br 130004 (.br 130012 (.br 130026 (.call [] [] (graph_Right_ok x2.1) .no fun x5 => .br 130034 (.op 130038 (.el (cI .i64) x2.1.Gone (.up 0)) (.br 130050 (.call [] [] (graph_In_ok x2.1 (x1.Ins + (a3 % x1.Mids))) .no fun x6 => .op 130056 (.ln Edge.D x6) (.br 130064 (.call [] [] (graph_Out_ok x2.1 (x1.Ins + (a3 % x1.Mids))) .no fun x7 => .op 130070 (.ln Edge.D x7) (.br 130078 (.call [] [] (graph_Paths_ok x2.1) .no fun x8 => .call [] [] (graph_Paths_ok x1) .no fun x9 => .call [] [] (ref16_Jacs_ok x8 x9) .no fun x10 => .br 130092 (.call [] [] (vertex_Can_ok x2.1 (x1.Ins + (a3 % x1.Mids))) .no fun x11 => .br 130104 (.op 130108 (.ln Edge.D x2.1.Edges) (.op 130114 (.ln Edge.D x1.Edges) (.ret (decide (((x2.1.Edges.length : Nat) : Int) ≥ ((((x1.Edges.length : Nat) : Int) - ((x3.length : Nat) : Int)) - ((x4.length : Nat) : Int))))))) (.ret false)) (.ret false)) (.ret false))) (.ret false))) (.ret false))) (.ret false)) (.ret false)) (.ret false)) (.ret false))))))))) Tryz.func10 (by kernel_rfl) (by kernel_rfl) (by kernel_rfl)

end Go.Ab.M
