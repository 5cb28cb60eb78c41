import Derived.Test.YtcelliafjmmldaaGreatTL
namespace Go.Ab.M
open Go.Proofs
set_option linter.unusedVariables false
set_option maxRecDepth 100000

def law22_awake : Option Bool :=
 (shape_Next (Shape.mk 1 1 2 [Pair.mk 0 1, Pair.mk 1 2, Pair.mk 1 3]) 1).bind fun x0 =>
 (shape_All (Shape.mk 1 1 2 [Pair.mk 0 1, Pair.mk 1 2, Pair.mk 1 3]) [1]).bind fun x1 =>
 bif x0.2.2 == 0 then
 bif x0.2.1 == 2 then
 (ref22_Same x0.1 (Shape.mk 1 1 2 [Pair.mk 0 2, Pair.mk 0 3])).bind fun x2 =>
 bif x2 then
 (shape_Cost (Shape.mk 1 1 2 [Pair.mk 0 1, Pair.mk 1 2, Pair.mk 1 3]) 1).bind fun x3 =>
 bif x3 == 2 then
 (shape_Fill (Shape.mk 1 1 2 [Pair.mk 0 1, Pair.mk 1 2, Pair.mk 1 3]) 1).bind fun x4 =>
 bif x4 == 2 then
 bif x1.2 == 0 then
 bif x1.1 == 2 then
 (shape_Right (Shape.mk 1 1 2 [Pair.mk 0 1, Pair.mk 1 2, Pair.mk 1 3])).bind fun x5 =>
 some x5
 else
 some false
 else
 some false
 else
 some false
 else
 some false
 else
 some false
 else
 some false
 else
 some false

theorem law22_awake_ok : ∀ r, law22_awake = some r → ACallsD Tryz.prog 47 0 [] [] (B r) [] :=
  acalls_T (enc := fun r => B r) (encH := fun r => []) 10 (.call [] [] (shape_Next_ok (Shape.mk 1 1 2 [Pair.mk 0 1, Pair.mk 1 2, Pair.mk 1 3]) 1) .no fun x0 => .call [] [] (shape_All_ok (Shape.mk 1 1 2 [Pair.mk 0 1, Pair.mk 1 2, Pair.mk 1 3]) [1]) (.yes fun _ => ⟨rfl, trivial⟩) fun x1 => .br 50006 (.br 50014 (.call [] [] (ref22_Same_ok x0.1 (Shape.mk 1 1 2 [Pair.mk 0 2, Pair.mk 0 3])) (.yes fun _ => ⟨rfl, trivial⟩) fun x2 => .br 50024 (.call [] [] (shape_Cost_ok (Shape.mk 1 1 2 [Pair.mk 0 1, Pair.mk 1 2, Pair.mk 1 3]) 1) (.yes fun _ => ⟨rfl, trivial⟩) fun x3 => .br 50034 (.call [] [] (shape_Fill_ok (Shape.mk 1 1 2 [Pair.mk 0 1, Pair.mk 1 2, Pair.mk 1 3]) 1) (.yes fun _ => ⟨rfl, trivial⟩) fun x4 => .br 50044 (.br 50052 (.br 50060 (.call [] [] (shape_Right_ok (Shape.mk 1 1 2 [Pair.mk 0 1, Pair.mk 1 2, Pair.mk 1 3])) (.yes fun _ => ⟨rfl, trivial⟩) fun x5 => .ret x5) (.ret false)) (.ret false)) (.ret false)) (.ret false)) (.ret false)) (.ret false)) (.ret false)) Tryz.func47 (by kernel_rfl) (by kernel_rfl) (by kernel_rfl)

def law22_ShapeVertex (toArray : Int) (a : Int) (a1 : Int) (a2 : List Link) (a3 : Int) (a4 : List Int) : Option Bool :=
 (law22_awake).bind fun x0 =>
 bif decide (((a2.length : Nat) : Int) > 30) then
 some x0
 else
 (ref17_Made toArray a a1 a2).bind fun x1 =>
 (shape_From x1).bind fun x2 =>
 (ref18_Order x1 a4).bind fun x3 =>
 (vertex_All x1 x3).bind fun x4 =>
 (shape_All x2 x3).bind fun x5 =>
 bif x4.2.2 != 0 then
 some false
 else
 bif x5.2 != 0 then
 some false
 else
 bif x4.2.1 != x5.1 then
 some false
 else
 bif x1.Mids == 0 then
 bif x0 then
 some (x4.2.1 == 0)
 else
 some false
 else
 bif inK .i64 a3 then
 bif decide (0 ≤ a3) then
 bif decide (0 < x1.Mids) then
 bif inK .i64 (x1.Ins + (a3 % x1.Mids)) then
 (vertex_Eliminate x1 (x1.Ins + (a3 % x1.Mids))).bind fun x6 =>
 (shape_Next x2 (x1.Ins + (a3 % x1.Mids))).bind fun x7 =>
 (shape_Fill x2 (x1.Ins + (a3 % x1.Mids))).bind fun x8 =>
 (graph_In x1 (x1.Ins + (a3 % x1.Mids))).bind fun x9 =>
 (graph_Out x1 (x1.Ins + (a3 % x1.Mids))).bind fun x10 =>
 bif inK .i64 (((x9.length : Nat) : Int) + ((x10.length : Nat) : Int)) then
 bif x0 then
 bif x6.2.2 == 0 then
 bif x7.2.2 == 0 then
 bif x6.2.1 == x7.2.1 then
 (shape_From x6.1).bind fun x11 =>
 (ref22_Same x11 x7.1).bind fun x12 =>
 bif x12 then
 bif inK .i64 (((x2.All.length : Nat) : Int) - (((x9.length : Nat) : Int) + ((x10.length : Nat) : Int))) then
 bif inK .i64 ((((x2.All.length : Nat) : Int) - (((x9.length : Nat) : Int) + ((x10.length : Nat) : Int))) + x8) then
 bif ((x7.1.All.length : Nat) : Int) == ((((x2.All.length : Nat) : Int) - (((x9.length : Nat) : Int) + ((x10.length : Nat) : Int))) + x8) then
 bif decide (x8 ≤ x6.2.1) then
 (shape_Cost x2 (x1.Ins + (a3 % x1.Mids))).bind fun x13 =>
 bif x13 == x6.2.1 then
 (shape_Cost x7.1 (x1.Ins + (a3 % x1.Mids))).bind fun x14 =>
 some (x14 == 0)
 else
 some false
 else
 some false
 else
 some false
 else none
 else none
 else
 some false
 else
 some false
 else
 some false
 else
 some false
 else
 some false
 else none
 else none
 else none
 else none
 else none

theorem law22_ShapeVertex_ok (toArray : Int) (a : Int) (a1 : Int) (a2 : List Link) (a3 : Int) (a4 : List Int) : ∀ r, law22_ShapeVertex toArray a a1 a2 a3 a4 = some r → ACallsD Tryz.prog 10 0 [NI .u8 toArray, NI .u8 a, NI .u8 a1, SL Link.D a2, NI .u8 a3, SL (cI .u8) a4] [] (B r) [] :=
  acalls_T (enc := fun r => B r) (encH := fun r => []) 10 (.call [] [] (law22_awake_ok) .no fun x0 => .op 20002 (.ln Link.D a2) (.br 100000034 (.ret x0) (.call [] [] (ref17_Made_ok toArray a a1 a2) .no fun x1 => .call [] [] (shape_From_ok x1) .no fun x2 => .call [] [] (ref18_Order_ok x1 a4) .no fun x3 => .call [] [] (vertex_All_ok x1 x3) .no fun x4 => .call [] [] (shape_All_ok x2 x3) .no fun x5 => .br 90006 (.ret false) (.br 90014 (.ret false) (.br 100000069 (.ret false) (.br 100000072 (.br 120004 (.ret (x4.2.1 == 0)) (.ret false)) (.call [] [] (vertex_Eliminate_ok x1 (x1.Ins + (a3 % x1.Mids))) .no fun x6 => .call [] [] (shape_Next_ok x2 (x1.Ins + (a3 % x1.Mids))) .no fun x7 => .call [] [] (shape_Fill_ok x2 (x1.Ins + (a3 % x1.Mids))) .no fun x8 => .call [] [] (graph_In_ok x1 (x1.Ins + (a3 % x1.Mids))) .no fun x9 => .op 170006 (.ln Edge.D x9) (.call [] [] (graph_Out_ok x1 (x1.Ins + (a3 % x1.Mids))) .no fun x10 => .op 170014 (.ln Edge.D x10) (.br 180004 (.br 180012 (.br 180020 (.br 180030 (.call [] [] (shape_From_ok x6.1) .no fun x11 => .call [] [] (ref22_Same_ok x11 x7.1) .no fun x12 => .br 180042 (.op 180046 (.ln Pair.D x7.1.All) (.op 180052 (.ln Pair.D x2.All) (.br 180068 (.br 180078 (.call [] [] (shape_Cost_ok x2 (x1.Ins + (a3 % x1.Mids))) .no fun x13 => .br 180092 (.call [] [] (shape_Cost_ok x7.1 (x1.Ins + (a3 % x1.Mids))) .no fun x14 => .ret (x14 == 0)) (.ret false)) (.ret false)) (.ret false)))) (.ret false)) (.ret false)) (.ret false)) (.ret false)) (.ret false)))))))))) Tryz.func10 (by kernel_rfl) (by kernel_rfl) (by kernel_rfl)

end Go.Ab.M
