import Derived.Test.YtpefcgiiigdcdaaGreatTS
namespace Go.Ab.M
open Go.Proofs
set_option linter.unusedVariables false
set_option maxRecDepth 100000

def law24_SearchBest (toArray : Int) (a : Int) (a1 : Int) (a2 : List Link) (a3 : List Int) : Option Bool :=
 (law24_awake).bind fun x0 =>
 bif decide (((a2.length : Nat) : Int) > 20) then
 some x0
 else
 (ref17_Made toArray a a1 a2).bind fun x1 =>
 (shape_From x1).bind fun x2 =>
 (search_Nodes x1.Mids).bind fun x3 =>
 (search_Search x2 x3).bind fun x4 =>
 (ref18_Order x1 a3).bind fun x5 =>
 (shape_All x2 x5).bind fun x6 =>
 bif x0 then
 bif x4.2.2.2 == 0 then
 bif x6.2 == 0 then
 bif x4.2.2.1 then
 bif decide (x4.2.1 ≤ x6.1) then
 (order_Forward x2).bind fun x7 =>
 (search_Bound x2 x7).bind fun x8 =>
 some (decide (x4.2.1 ≥ x8))
 else
 some false
 else
 some false
 else
 some false
 else
 some false
 else
 some false

theorem law24_SearchBest_ok (toArray : Int) (a : Int) (a1 : Int) (a2 : List Link) (a3 : List Int) : ∀ r, law24_SearchBest toArray a a1 a2 a3 = some r → ACallsD Tryz.prog 4 0 [NI .u8 toArray, NI .u8 a, NI .u8 a1, SL Link.D a2, SL (cI .u8) a3] [] (B r) [] :=
  acalls_T (enc := fun r => B r) (encH := fun r => []) 10 (.call [] [] (law24_awake_ok) .no fun x0 => .op 20002 (.ln Link.D a2) (.br 100000023 (.ret x0) (.call [] [] (ref17_Made_ok toArray a a1 a2) .no fun x1 => .call [] [] (shape_From_ok x1) .no fun x2 => .call [] [] (search_Nodes_ok x1.Mids) .no fun x3 => .call [] [] (search_Search_ok x2 x3) .no fun x4 => .call [] [] (ref18_Order_ok x1 a3) .no fun x5 => .call [] [] (shape_All_ok x2 x5) .no fun x6 => .br 80004 (.br 80012 (.br 80020 (.br 80026 (.br 80036 (.call [] [] (order_Forward_ok x2) .no fun x7 => .call [] [] (search_Bound_ok x2 x7) .no fun x8 => .ret (decide (x4.2.1 ≥ x8))) (.ret false)) (.ret false)) (.ret false)) (.ret false)) (.ret false)))) Tryz.func4 (by kernel_rfl) (by kernel_rfl) (by kernel_rfl)

end Go.Ab.M
