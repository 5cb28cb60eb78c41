import Derived.Test.YtcelliafjmmldaaGreatTM
namespace Go.Ab.M
open Go.Proofs
set_option linter.unusedVariables false
set_option maxRecDepth 100000
def law16_SlopeTells (tA : Int) (a : List Int) (a1 : List S_Op_A_B_N) (a2 : List Rat) : Option Bool :=
 (qFk_).bind fun x0 =>
 (qtk_ a2 1).bind fun x1 =>
 bif !x1 then
 some x0
 else
 bif decide (((a1.length : Nat) : Int) > 8) then
 some x0
 else
 bif decide (((a.length : Nat) : Int) > 3) then
 some x0
 else
 bif decide (((a2.length : Nat) : Int) > 4) then
 some x0
 else
 (qdh_ tA a a1 8).bind fun x2 =>
 (qkd_ x2 a2).bind fun x3 =>
 (qre_ x2 a2).bind fun x4 =>
 (qHa_ x2 a2).bind fun x5 =>
 (qEc_ x2 a2).bind fun x6 =>
 bif x0 then
 bif x3.2 == x4.2 then
 (qfj_ x3.1 x4.1).bind fun x7 =>
 bif x7 then
 bif x5.2 == x6.2 then
 (qCh_ x5.1 x6.1).bind fun x8 =>
 some x8
 else
 some false
 else
 some false
 else
 some false
 else
 some false
theorem law16_SlopeTells_ok (tA : Int) (a : List Int) (a1 : List S_Op_A_B_N) (a2 : List Rat) : ∀ r, law16_SlopeTells tA a a1 a2 = some r → ACallsD Tryz.prog 5 0 [NI .u8 tA, SL (cI .u8) a, SL S_Op_A_B_N.D a1, SL Rat.D a2] [] (B r) [] :=
 acalls_T (enc := fun r => B r) (encH := fun r => []) 10 (.call [] [] (qap_) .no fun x0 => .call [] [] (qUq_ a2 1) .no fun x1 => .br 30006 (.ret x0) (.op 30008 (.ln S_Op_A_B_N.D a1) (.br 30016 (.ret x0) (.op 30018 (.ln (cI .u8) a) (.br 30026 (.ret x0) (.op 30028 (.ln Rat.D a2) (.br 100000039 (.ret x0) (.call [] [] (qcq_ tA a a1 8) .no fun x2 => .call [] [] (qJk_ x2 a2) .no fun x3 => .call [] [] (qNp_ x2 a2) .no fun x4 => .call [] [] (qvj_ x2 a2) .no fun x5 => .call [] [] (qOm_ x2 a2) .no fun x6 => .br 100004 (.br 100014 (.call [] [] (qSl_ x3.1 x4.1) .no fun x7 => .br 100024 (.br 100034 (.call [] [] (qGl_ x5.1 x6.1) .no fun x8 => .ret x8) (.ret false)) (.ret false)) (.ret false)) (.ret false))))))))) Tryz.func5 (by kernel_rfl) (by kernel_rfl) (by kernel_rfl)
end Go.Ab.M
