import Derived.Test.YtmnmghjbkopjoaaGreatTD
namespace Go.Ab.M
open Go.Proofs
set_option linter.unusedVariables false
set_option maxRecDepth 100000

def law23_awake : Option Bool :=
  (order_By (Shape.mk 2 2 1 [Pair.mk 0 2, Pair.mk 1 2, Pair.mk 2 3, Pair.mk 2 4, Pair.mk 3 4]) 2).bind fun x0 =>
  (order_Markowitz (Shape.mk 2 2 1 [Pair.mk 0 2, Pair.mk 1 2, Pair.mk 2 3, Pair.mk 2 4, Pair.mk 3 4])).bind fun x1 =>
  (ref01_Ints x1 [3, 2]).bind fun x2 =>
  bif x2 then
    (order_Forward (Shape.mk 2 2 1 [Pair.mk 0 2, Pair.mk 1 2, Pair.mk 2 3, Pair.mk 2 4, Pair.mk 3 4])).bind fun x3 =>
    (ref01_Ints x3 [2, 3]).bind fun x4 =>
    bif x4 then
      (ref01_Ints x0.1 [3, 2]).bind fun x5 =>
      bif x5 then
        bif x0.2 == 0 then
          (order_Fill (Shape.mk 2 2 1 [Pair.mk 0 2, Pair.mk 1 2, Pair.mk 2 3, Pair.mk 2 4, Pair.mk 3 4])).bind fun x6 =>
          (ref01_Ints x6 [3, 2]).bind fun x7 =>
          some x7
        else
          some false
      else
        some false
    else
      some false
  else
    some false

theorem law23_awake_ok : ∀ r, law23_awake = some r → ACallsD Tryz.prog 30 0 [] [] (B r) [] :=
  acalls_T (enc := fun r => B r) (encH := fun r => []) 10 (.call [] [] (order_By_ok (Shape.mk 2 2 1 [Pair.mk 0 2, Pair.mk 1 2, Pair.mk 2 3, Pair.mk 2 4, Pair.mk 3 4]) 2) .no fun x0 => .call [] [] (order_Markowitz_ok (Shape.mk 2 2 1 [Pair.mk 0 2, Pair.mk 1 2, Pair.mk 2 3, Pair.mk 2 4, Pair.mk 3 4])) .no fun x1 => .call [] [] (ref01_Ints_ok x1 [3, 2]) (.yes fun _ => ⟨rfl, trivial⟩) fun x2 => .br 30010 (.call [] [] (order_Forward_ok (Shape.mk 2 2 1 [Pair.mk 0 2, Pair.mk 1 2, Pair.mk 2 3, Pair.mk 2 4, Pair.mk 3 4])) .no fun x3 => .call [] [] (ref01_Ints_ok x3 [2, 3]) (.yes fun _ => ⟨rfl, trivial⟩) fun x4 => .br 30022 (.call [] [] (ref01_Ints_ok x0.1 [3, 2]) (.yes fun _ => ⟨rfl, trivial⟩) fun x5 => .br 30032 (.br 30040 (.call [] [] (order_Fill_ok (Shape.mk 2 2 1 [Pair.mk 0 2, Pair.mk 1 2, Pair.mk 2 3, Pair.mk 2 4, Pair.mk 3 4])) .no fun x6 => .call [] [] (ref01_Ints_ok x6 [3, 2]) (.yes fun _ => ⟨rfl, trivial⟩) fun x7 => .ret x7) (.ret false)) (.ret false)) (.ret false)) (.ret false)) Tryz.func30 (by kernel_rfl) (by kernel_rfl) (by kernel_rfl)

def law23_OrderEach (toArray : Int) (a : Int) (a1 : Int) (a2 : List Link) (a3 : Int) : Option Bool :=
  (law23_awake).bind fun x0 =>
  bif decide (((a2.length : Nat) : Int) > 30) then
    some x0
  else
    (ref17_Made toArray a a1 a2).bind fun x1 =>
    (shape_From x1).bind fun x2 =>
    (order_By x2 a3).bind fun x3 =>
    bif decide (a3 < 1) then
      bif x0 then
        bif x3.2 == 1 then
          some (((x3.1.length : Nat) : Int) == 0)
        else
          some false
      else
        some false
    else
      bif decide (a3 > 4) then
        bif x0 then
          bif x3.2 == 1 then
            some (((x3.1.length : Nat) : Int) == 0)
          else
            some false
        else
          some false
      else
        (shape_All x2 x3.1).bind fun x4 =>
        (ref21_Each x3.1 x2.Ins x2.Mids).bind fun x5 =>
        bif x0 then
          bif x3.2 == 0 then
            bif x4.2 == 0 then
              bif decide (x4.1 ≥ 0) then
                some x5
              else
                some false
            else
              some false
          else
            some false
        else
          some false

theorem law23_OrderEach_ok (toArray : Int) (a : Int) (a1 : Int) (a2 : List Link) (a3 : Int) : ∀ r, law23_OrderEach toArray a a1 a2 a3 = some r → ACallsD Tryz.prog 6 0 [NI .u8 toArray, NI .u8 a, NI .u8 a1, SL Link.D a2, I a3] [] (B r) [] :=
  acalls_T (enc := fun r => B r) (encH := fun r => []) 10 (.call [] [] (law23_awake_ok) .no fun x0 => .op 20002 (.ln Link.D a2) (.br 100000021 (.ret x0) (.call [] [] (ref17_Made_ok toArray a a1 a2) .no fun x1 => .call [] [] (shape_From_ok x1) .no fun x2 => .call [] [] (order_By_ok x2 a3) .no fun x3 => .br 60006 (.br 70004 (.br 70012 (.op 70014 (.ln (cI .i64) x3.1) (.ret (((x3.1.length : Nat) : Int) == 0))) (.ret false)) (.ret false)) (.br 100000040 (.br 70004 (.br 70012 (.op 70014 (.ln (cI .i64) x3.1) (.ret (((x3.1.length : Nat) : Int) == 0))) (.ret false)) (.ret false)) (.call [] [] (shape_All_ok x2 x3.1) .no fun x4 => .call [] [] (ref21_Each_ok x3.1 x2.Ins x2.Mids) .no fun x5 => .br 100004 (.br 100012 (.br 100020 (.br 100028 (.ret x5) (.ret false)) (.ret false)) (.ret false)) (.ret false)))))) Tryz.func6 (by kernel_rfl) (by kernel_rfl) (by kernel_rfl)

end Go.Ab.M
