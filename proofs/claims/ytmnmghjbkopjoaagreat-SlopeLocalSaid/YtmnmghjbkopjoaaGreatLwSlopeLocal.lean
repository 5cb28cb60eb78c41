import Derived.Test.YtmnmghjbkopjoaaGreatTH
namespace Go.Ab.M
open Go.Proofs
set_option linter.unusedVariables false
set_option maxRecDepth 100000

def law16_SlopeLocal (o : TOp) (a : Rat) (b : Rat) : Option Bool :=
  (law16_awake).bind fun x0 =>
  (ref08_Few [a, b] 2).bind fun x1 =>
  bif !x1 then
    some x0
  else
    (slope_Local o a b).bind fun x2 =>
    (ref16_Local o a b).bind fun x3 =>
    bif x0 then
      bif x2.2.2 == x3.2.2 then
        (ref08_Equal x2.1 x3.1).bind fun x4 =>
        bif x4 then
          (ref08_Equal x2.2.1 x3.2.1).bind fun x5 =>
          some x5
        else
          some false
      else
        some false
    else
      some false

theorem law16_SlopeLocal_ok (o : TOp) (a : Rat) (b : Rat) : ∀ r, law16_SlopeLocal o a b = some r → ACallsD Tryz.prog 9 0 [AG TOp.D o, AG Rat.D a, AG Rat.D b] [] (B r) [] :=
  acalls_T (enc := fun r => B r) (encH := fun r => []) 10 (.call [] [] (law16_awake_ok) .no fun x0 => .call [] [] (ref08_Few_ok [a, b] 2) (.yes fun _ => ⟨rfl, trivial⟩) fun x1 => .br 100000021 (.ret x0) (.call [] [] (slope_Local_ok o a b) .no fun x2 => .call [] [] (ref16_Local_ok o a b) .no fun x3 => .br 70004 (.br 70014 (.call [] [] (ref08_Equal_ok x2.1 x3.1) .no fun x4 => .br 70024 (.call [] [] (ref08_Equal_ok x2.2.1 x3.2.1) .no fun x5 => .ret x5) (.ret false)) (.ret false)) (.ret false))) Tryz.func9 (by kernel_rfl) (by kernel_rfl) (by kernel_rfl)

end Go.Ab.M
