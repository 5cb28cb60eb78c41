import Derived.Test.YtpefcgiiigdcdaaTS
namespace Go.Ab.M
open Go.Proofs
set_option linter.unusedVariables false
set_option maxRecDepth 100000

def law24_SearchTells (toArray : Int) (a : Shape) (a1 : List Int) : Option Bool :=
 (law24_awake).bind fun x0 =>
 (ref22_Few a).bind fun x1 =>
 bif !x1 then
 some x0
 else
 bif decide (((a1.length : Nat) : Int) > 8) then
 some x0
 else
 (ref22_Right a).bind fun x2 =>
 bif x2 then
 (ref24_Bound a a1).bind fun x3 =>
 bif !x2 then
 (search_Search a 1000).bind fun x4 =>
 bif x4.2.2.2 != 1 then
 some false
 else
 bif ((x4.1.length : Nat) : Int) != 0 then
 some false
 else
 bif x4.2.1 != 0 then
 some false
 else
 bif x4.2.2.1 then
 some false
 else
 bif decide (0 ≤ toArray) then
 bif decide (0 < 13) then
 bif inK .i64 (toArray % 13) then
 bif x0 then
 (search_Nodes (toArray % 13)).bind fun x5 =>
 (ref24_Nodes (toArray % 13)).bind fun x6 =>
 bif x5 == x6 then
 (search_Bound a a1).bind fun x7 =>
 some (x7 == x3)
 else
 some false
 else
 some false
 else none
 else none
 else none
 else
 bif decide (0 ≤ toArray) then
 bif decide (0 < 13) then
 bif inK .i64 (toArray % 13) then
 bif x0 then
 (search_Nodes (toArray % 13)).bind fun x4 =>
 (ref24_Nodes (toArray % 13)).bind fun x5 =>
 bif x4 == x5 then
 (search_Bound a a1).bind fun x6 =>
 some (x6 == x3)
 else
 some false
 else
 some false
 else none
 else none
 else none
 else
 bif !x2 then
 (search_Search a 1000).bind fun x3 =>
 bif x3.2.2.2 != 1 then
 some false
 else
 bif ((x3.1.length : Nat) : Int) != 0 then
 some false
 else
 bif x3.2.1 != 0 then
 some false
 else
 bif x3.2.2.1 then
 some false
 else
 bif decide (0 ≤ toArray) then
 bif decide (0 < 13) then
 bif inK .i64 (toArray % 13) then
 bif x0 then
 (search_Nodes (toArray % 13)).bind fun x4 =>
 (ref24_Nodes (toArray % 13)).bind fun x5 =>
 bif x4 == x5 then
 (search_Bound a a1).bind fun x6 =>
 some (x6 == 0)
 else
 some false
 else
 some false
 else none
 else none
 else none
 else
 bif decide (0 ≤ toArray) then
 bif decide (0 < 13) then
 bif inK .i64 (toArray % 13) then
 bif x0 then
 (search_Nodes (toArray % 13)).bind fun x3 =>
 (ref24_Nodes (toArray % 13)).bind fun x4 =>
 bif x3 == x4 then
 (search_Bound a a1).bind fun x5 =>
 some (x5 == 0)
 else
 some false
 else
 some false
 else none
 else none
 else none

theorem law24_SearchTells_ok (toArray : Int) (a : Shape) (a1 : List Int) : ∀ r, law24_SearchTells toArray a a1 = some r → ACallsD Try.prog 3 0 [NI .u8 toArray, AG Shape.D a, SL (cI .i64) a1] [] (B r) [] :=
  acalls_T (enc := fun r => B r) (encH := fun r => []) 10 (.call [] [] (law24_awake_ok) .no fun x0 => .call [] [] (ref22_Few_ok a) .no fun x1 => .br 30006 (.ret x0) (.op 30008 (.ln (cI .i64) a1) (.br 100000025 (.ret x0) (.call [] [] (ref22_Right_ok a) .no fun x2 => .br 100000029 (.call [] [] (ref24_Bound_ok a a1) .no fun x3 => .br 100000034 (.call [] [] (search_Search_ok a 1000) .no fun x4 => .br 110006 (.ret false) (.op 110008 (.ln (cI .i64) x4.1) (.br 110016 (.ret false) (.br 110024 (.ret false) (.br 100000055 (.ret false) (.br 140004 (.call [] [] (search_Nodes_ok (toArray % 13)) .no fun x5 => .call [] [] (ref24_Nodes_ok (toArray % 13)) .no fun x6 => .br 140018 (.call [] [] (search_Bound_ok a a1) .no fun x7 => .ret (x7 == x3)) (.ret false)) (.ret false))))))) (.br 140004 (.call [] [] (search_Nodes_ok (toArray % 13)) .no fun x4 => .call [] [] (ref24_Nodes_ok (toArray % 13)) .no fun x5 => .br 140018 (.call [] [] (search_Bound_ok a a1) .no fun x6 => .ret (x6 == x3)) (.ret false)) (.ret false))) (.br 100000034 (.call [] [] (search_Search_ok a 1000) .no fun x3 => .br 110006 (.ret false) (.op 110008 (.ln (cI .i64) x3.1) (.br 110016 (.ret false) (.br 110024 (.ret false) (.br 100000055 (.ret false) (.br 140004 (.call [] [] (search_Nodes_ok (toArray % 13)) .no fun x4 => .call [] [] (ref24_Nodes_ok (toArray % 13)) .no fun x5 => .br 140018 (.call [] [] (search_Bound_ok a a1) .no fun x6 => .ret (x6 == 0)) (.ret false)) (.ret false))))))) (.br 140004 (.call [] [] (search_Nodes_ok (toArray % 13)) .no fun x3 => .call [] [] (ref24_Nodes_ok (toArray % 13)) .no fun x4 => .br 140018 (.call [] [] (search_Bound_ok a a1) .no fun x5 => .ret (x5 == 0)) (.ret false)) (.ret false))))))) Try.func3 (by kernel_rfl) (by kernel_rfl) (by kernel_rfl)

end Go.Ab.M
