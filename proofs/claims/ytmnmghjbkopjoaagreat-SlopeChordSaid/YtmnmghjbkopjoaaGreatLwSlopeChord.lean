import Derived.Test.YtmnmghjbkopjoaaGreatTH
namespace Go.Ab.M
open Go.Proofs
set_option linter.unusedVariables false
set_option maxRecDepth 100000

def law16_SlopeChord (toArray : Rat) (a : Rat) (a1 : Rat) (a2 : Rat) : Option Bool :=
  (law16_awake).bind fun x0 =>
  (ref08_Few [toArray, a, a1, a2] 2).bind fun x1 =>
  bif !x1 then
    some x0
  else
    (slope_Local (TOp.mk 4 0 0 0 (Rat.mk false [] [])) toArray a).bind fun x2 =>
    (ref08_Add toArray a1).bind fun x3 =>
    (ref08_Add a a2).bind fun x4 =>
    (ref08_Mul x3 x4).bind fun x5 =>
    (ref08_Mul toArray a).bind fun x6 =>
    (ref08_Sub x5 x6).bind fun x7 =>
    (ref08_Mul x2.1 a1).bind fun x8 =>
    (ref08_Mul x2.2.1 a2).bind fun x9 =>
    (ref08_Add x8 x9).bind fun x10 =>
    (ref08_Mul a1 a2).bind fun x11 =>
    (ref08_Add x10 x11).bind fun x12 =>
    (slope_Local (TOp.mk 5 0 0 0 (Rat.mk false [] [])) toArray a).bind fun x13 =>
    (ref08_Div toArray a).bind fun x14 =>
    bif x14.2 != 0 then
      bif x0 then
        bif x2.2.2 == 0 then
          bif x13.2.2 == 3 then
            (ref08_Equal x7 x12).bind fun x15 =>
            some x15
          else
            some false
        else
          some false
      else
        some false
    else
      (ref08_Mul x13.1 a).bind fun x15 =>
      (ref08_Mul x13.2.1 a).bind fun x16 =>
      (ref08_Add x16 x14.1).bind fun x17 =>
      bif x0 then
        bif x2.2.2 == 0 then
          bif x13.2.2 == 0 then
            (ref08_Equal x7 x12).bind fun x18 =>
            bif x18 then
              (ref08_Of 1).bind fun x19 =>
              (ref08_Equal x15 x19).bind fun x20 =>
              bif x20 then
                (ref08_Of 0).bind fun x21 =>
                (ref08_Equal x17 x21).bind fun x22 =>
                some x22
              else
                some false
            else
              some false
          else
            some false
        else
          some false
      else
        some false

theorem law16_SlopeChord_ok (toArray : Rat) (a : Rat) (a1 : Rat) (a2 : Rat) : ∀ r, law16_SlopeChord toArray a a1 a2 = some r → ACallsD Tryz.prog 10 0 [AG Rat.D toArray, AG Rat.D a, AG Rat.D a1, AG Rat.D a2] [] (B r) [] :=
  acalls_T (enc := fun r => B r) (encH := fun r => []) 10 (.call [] [] (law16_awake_ok) .no fun x0 => .call [] [] (ref08_Few_ok [toArray, a, a1, a2] 2) (.yes fun _ => ⟨rfl, trivial⟩) fun x1 => .br 100000031 (.ret x0) (.call [] [] (slope_Local_ok (TOp.mk 4 0 0 0 (Rat.mk false [] [])) toArray a) .no fun x2 => .call [] [] (ref08_Add_ok toArray a1) .no fun x3 => .call [] [] (ref08_Add_ok a a2) .no fun x4 => .call [] [] (ref08_Mul_ok x3 x4) .no fun x5 => .call [] [] (ref08_Mul_ok toArray a) .no fun x6 => .call [] [] (ref08_Sub_ok x5 x6) .no fun x7 => .call [] [] (ref08_Mul_ok x2.1 a1) .no fun x8 => .call [] [] (ref08_Mul_ok x2.2.1 a2) .no fun x9 => .call [] [] (ref08_Add_ok x8 x9) .no fun x10 => .call [] [] (ref08_Mul_ok a1 a2) .no fun x11 => .call [] [] (ref08_Add_ok x10 x11) .no fun x12 => .call [] [] (slope_Local_ok (TOp.mk 5 0 0 0 (Rat.mk false [] [])) toArray a) .no fun x13 => .call [] [] (ref08_Div_ok toArray a) .no fun x14 => .br 100000078 (.br 110004 (.br 110012 (.br 110020 (.call [] [] (ref08_Equal_ok x7 x12) .no fun x15 => .ret x15) (.ret false)) (.ret false)) (.ret false)) (.call [] [] (ref08_Mul_ok x13.1 a) .no fun x15 => .call [] [] (ref08_Mul_ok x13.2.1 a) .no fun x16 => .call [] [] (ref08_Add_ok x16 x14.1) .no fun x17 => .br 140004 (.br 140012 (.br 140020 (.call [] [] (ref08_Equal_ok x7 x12) .no fun x18 => .br 140030 (.call [] [] (ref08_Of_ok 1) .no fun x19 => .call [] [] (ref08_Equal_ok x15 x19) .no fun x20 => .br 140040 (.call [] [] (ref08_Of_ok 0) .no fun x21 => .call [] [] (ref08_Equal_ok x17 x21) .no fun x22 => .ret x22) (.ret false)) (.ret false)) (.ret false)) (.ret false)) (.ret false)))) Tryz.func10 (by kernel_rfl) (by kernel_rfl) (by kernel_rfl)

end Go.Ab.M
