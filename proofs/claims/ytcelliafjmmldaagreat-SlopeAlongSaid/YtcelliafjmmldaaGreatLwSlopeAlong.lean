import Derived.Test.YtcelliafjmmldaaGreatTM
namespace Go.Ab.M
open Go.Proofs
set_option linter.unusedVariables false
set_option maxRecDepth 100000

def law16_SlopeAlong (toArray : Int) (a : List Int) (a1 : List S_Op_A_B_N) (a2 : List S_N_D) (a3 : List Rat) : Option Bool :=
 (law16_awake).bind fun x0 =>
 (ref08_Few a3 1).bind fun x1 =>
 bif !x1 then
 some x0
 else
 bif decide (((a1.length : Nat) : Int) > 8) then
 some x0
 else
 bif decide (((a.length : Nat) : Int) > 3) then
 some x0
 else
 bif decide (((a3.length : Nat) : Int) > 4) then
 some x0
 else
 (ref14_Made toArray a a1 8).bind fun x2 =>
 (ref15_Point x2.Ins a2).bind fun x3 =>
 (slope_Along x2 x3 a3).bind fun x4 =>
 (ref16_Along x2 x3 a3).bind fun x5 =>
 bif x0 then
 bif x4.2 == x5.2 then
 (ref08_All x4.1 x5.1).bind fun x6 =>
 some x6
 else
 some false
 else
 some false

theorem law16_SlopeAlong_ok (toArray : Int) (a : List Int) (a1 : List S_Op_A_B_N) (a2 : List S_N_D) (a3 : List Rat) : ∀ r, law16_SlopeAlong toArray a a1 a2 a3 = some r → ACallsD Tryz.prog 6 0 [NI .u8 toArray, SL (cI .u8) a, SL S_Op_A_B_N.D a1, SL S_N_D.D a2, SL Rat.D a3] [] (B r) [] :=
  acalls_T (enc := fun r => B r) (encH := fun r => []) 10 (.call [] [] (law16_awake_ok) .no fun x0 => .call [] [] (ref08_Few_ok a3 1) .no fun x1 => .br 30006 (.ret x0) (.op 30008 (.ln S_Op_A_B_N.D a1) (.br 30016 (.ret x0) (.op 30018 (.ln (cI .u8) a) (.br 30026 (.ret x0) (.op 30028 (.ln Rat.D a3) (.br 100000038 (.ret x0) (.call [] [] (ref14_Made_ok toArray a a1 8) .no fun x2 => .call [] [] (ref15_Point_ok x2.Ins a2) .no fun x3 => .call [] [] (slope_Along_ok x2 x3 a3) .no fun x4 => .call [] [] (ref16_Along_ok x2 x3 a3) .no fun x5 => .br 90004 (.br 90014 (.call [] [] (ref08_All_ok x4.1 x5.1) .no fun x6 => .ret x6) (.ret false)) (.ret false))))))))) Tryz.func6 (by kernel_rfl) (by kernel_rfl) (by kernel_rfl)

end Go.Ab.M
