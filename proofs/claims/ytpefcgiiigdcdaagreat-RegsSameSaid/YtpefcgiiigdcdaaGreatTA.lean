import Derived.Test.YtpefcgiiigdcdaaGreatCL
namespace Go.Ab.M
open Go.Proofs
set_option linter.unusedVariables false
set_option maxRecDepth 100000
structure Pair where
  From : Int
  To : Int
  deriving DecidableEq, Inhabited
abbrev Pair.D (x : Pair) : List D := [.v (.int .i64 x.From), .v (.int .i64 x.To)]

structure Shape where
  Ins : Int
  Mids : Int
  Outs : Int
  All : List Pair
  deriving DecidableEq, Inhabited
abbrev Shape.D (x : Shape) : List D := [.v (.int .i64 x.Ins), .v (.int .i64 x.Mids), .v (.int .i64 x.Outs), .sl (x.All.map Pair.D)]

def cmp_isNaN_int (x : Int) : Option Bool :=
 some (x != x)

theorem cmp_isNaN_int_ok (x : Int) : ∀ r, cmp_isNaN_int x = some r → ACallsD Tryz.prog 173 0 [I x] [] (B r) [] :=
  acalls_T (enc := fun r => B r) (encH := fun r => []) 10 (.ret (x != x)) Tryz.func173 (by kernel_rfl) (by kernel_rfl) (by kernel_rfl)

def cmp_Compare_int (x : Int) (y : Int) : Option Int :=
 (cmp_isNaN_int x).bind fun x0 =>
 (cmp_isNaN_int y).bind fun x1 =>
 bif x0 then
 bif x1 then
 some 0
 else
 some (-1)
 else
 bif x1 then
 some 1
 else
 bif decide (x < y) then
 some (-1)
 else
 bif decide (x > y) then
 some 1
 else
 some 0

theorem cmp_Compare_int_ok (x : Int) (y : Int) : ∀ r, cmp_Compare_int x y = some r → ACallsD Tryz.prog 124 0 [I x, I y] [] (I r) [] :=
  acalls_T (enc := fun r => I r) (encH := fun r => []) 10 (.call [] [] (cmp_isNaN_int_ok x) .no fun x0 => .call [] [] (cmp_isNaN_int_ok y) .no fun x1 => .br 100000011 (.br 100000012 (.ret 0) (.ret (-1))) (.br 100000013 (.ret 1) (.br 100000016 (.ret (-1)) (.br 100000019 (.ret 1) (.ret 0))))) Tryz.func124 (by kernel_rfl) (by kernel_rfl) (by kernel_rfl)

def strc0 : ByteArray := ⟨#[0, 1, 2, 2, 3, 3, 3, 3, 4, 4, 4, 4, 4, 4, 4, 4, 5, 5, 5, 5, 5, 5, 5, 5, 5, 5, 5, 5, 5, 5, 5, 5, 6, 6, 6, 6, 6, 6, 6, 6, 6, 6, 6, 6, 6, 6, 6, 6, 6, 6, 6, 6, 6, 6, 6, 6, 6, 6, 6, 6, 6, 6, 6, 6, 7, 7, 7, 7, 7, 7, 7, 7, 7, 7, 7, 7, 7, 7, 7, 7, 7, 7, 7, 7, 7, 7, 7, 7, 7, 7, 7, 7, 7, 7, 7, 7, 7, 7, 7, 7, 7, 7, 7, 7, 7, 7, 7, 7, 7, 7, 7, 7, 7, 7, 7, 7, 7, 7, 7, 7, 7, 7, 7, 7, 7, 7, 7, 7, 8, 8, 8, 8, 8, 8, 8, 8, 8, 8, 8, 8, 8, 8, 8, 8, 8, 8, 8, 8, 8, 8, 8, 8, 8, 8, 8, 8, 8, 8, 8, 8, 8, 8, 8, 8, 8, 8, 8, 8, 8, 8, 8, 8, 8, 8, 8, 8, 8, 8, 8, 8, 8, 8, 8, 8, 8, 8, 8, 8, 8, 8, 8, 8, 8, 8, 8, 8, 8, 8, 8, 8, 8, 8, 8, 8, 8, 8, 8, 8, 8, 8, 8, 8, 8, 8, 8, 8, 8, 8, 8, 8, 8, 8, 8, 8, 8, 8, 8, 8, 8, 8, 8, 8, 8, 8, 8, 8, 8, 8, 8, 8, 8, 8, 8, 8, 8, 8, 8, 8, 8, 8, 8, 8, 8, 8, 8, 8]⟩

end Go.Ab.M
