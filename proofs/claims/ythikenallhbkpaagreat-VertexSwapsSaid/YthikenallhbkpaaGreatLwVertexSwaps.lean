import Derived.Test.YthikenallhbkpaaGreatTK
namespace Go.Ab.M
open Go.Proofs
set_option linter.unusedVariables false
set_option maxRecDepth 100000

def law18_VertexSwaps (toArray : Int) (a : Int) (a1 : Int) (a2 : List Link) (a3 : Int) (a4 : Int) : Option Bool :=
 (law18_awake).bind fun x0 =>
 bif decide (((a2.length : Nat) : Int) > 30) then
 some x0
 else
 (ref17_Made toArray a a1 a2).bind fun x1 =>
 bif decide (x1.Mids < 2) then
 some x0
 else
 bif inK .i64 a3 then
 bif decide (0 ≤ a3) then
 bif decide (0 < x1.Mids) then
 bif inK .i64 (x1.Ins + (a3 % x1.Mids)) then
 bif inK .i64 a4 then
 bif decide (0 ≤ a4) then
 bif decide (0 < x1.Mids) then
 bif inK .i64 (x1.Ins + (a4 % x1.Mids)) then
 (vertex_All x1 [x1.Ins + (a3 % x1.Mids), x1.Ins + (a4 % x1.Mids)]).bind fun x2 =>
 (vertex_All x1 [x1.Ins + (a4 % x1.Mids), x1.Ins + (a3 % x1.Mids)]).bind fun x3 =>
 bif (x1.Ins + (a3 % x1.Mids)) == (x1.Ins + (a4 % x1.Mids)) then
 bif x0 then
 bif x2.2.2 == 9 then
 some (x3.2.2 == 9)
 else
 some false
 else
 some false
 else
 bif x0 then
 bif x2.2.2 == 0 then
 bif x3.2.2 == 0 then
 (ref17_Same x2.1 x3.1).bind fun x4 =>
 bif x4 then
 some (((x2.1.Gone.length : Nat) : Int) == 2)
 else
 some false
 else
 some false
 else
 some false
 else
 some false
 else none
 else none
 else none
 else none
 else none
 else none
 else none
 else none

theorem law18_VertexSwaps_ok (toArray : Int) (a : Int) (a1 : Int) (a2 : List Link) (a3 : Int) (a4 : Int) : ∀ r, law18_VertexSwaps toArray a a1 a2 a3 a4 = some r → ACallsD Tryz.prog 9 0 [NI .u8 toArray, NI .u8 a, NI .u8 a1, SL Link.D a2, NI .u8 a3, NI .u8 a4] [] (B r) [] :=
  acalls_T (enc := fun r => B r) (encH := fun r => []) 10 (.call [] [] (law18_awake_ok) .no fun x0 => .op 20002 (.ln Link.D a2) (.br 100000026 (.ret x0) (.call [] [] (ref17_Made_ok toArray a a1 a2) .no fun x1 => .br 100000035 (.ret x0) (.call [] [] (vertex_All_ok x1 [x1.Ins + (a3 % x1.Mids), x1.Ins + (a4 % x1.Mids)]) .no fun x2 => .call [] [] (vertex_All_ok x1 [x1.Ins + (a4 % x1.Mids), x1.Ins + (a3 % x1.Mids)]) .no fun x3 => .br 100000073 (.br 120004 (.br 120012 (.ret (x3.2.2 == 9)) (.ret false)) (.ret false)) (.br 130004 (.br 130012 (.br 130020 (.call [] [] (ref17_Same_ok x2.1 x3.1) .no fun x4 => .br 130030 (.op 130034 (.ln (cI .i64) x2.1.Gone) (.ret (((x2.1.Gone.length : Nat) : Int) == 2))) (.ret false)) (.ret false)) (.ret false)) (.ret false)))))) Tryz.func9 (by kernel_rfl) (by kernel_rfl) (by kernel_rfl)

end Go.Ab.M
