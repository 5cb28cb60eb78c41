import Derived.Test.YtpefcgiiigdcdaaGreatTB
import Derived.Test.YtpefcgiiigdcdaaGreatCG
namespace Go.Ab.M
open Go.Proofs
set_option linter.unusedVariables false
set_option maxRecDepth 100000
structure Rat where
  Neg : Bool
  Num : List Int
  Den : List Int
  deriving DecidableEq, Inhabited
abbrev Rat.D (x : Rat) : List D := [.v (.bool x.Neg), .sl (x.Num.map (cI .u32)), .sl (x.Den.map (cI .u32))]

def common_Apart (a : List Int) (b : List Int) : Option Bool :=
 (common_Gcd a b).bind fun x0 =>
 (nat_Of 1).bind fun x1 =>
 (nat_Cmp x0 x1).bind fun x2 =>
 some (x2 == 0)

theorem common_Apart_ok (a : List Int) (b : List Int) : ∀ r, common_Apart a b = some r → ACallsD Tryz.prog 170 0 [SL (cI .u32) a, SL (cI .u32) b] [] (B r) [] :=
  acalls_T (enc := fun r => B r) (encH := fun r => []) 10 (.call [] [] (common_Gcd_ok a b) .no fun x0 => .call [] [] (nat_Of_ok 1) .no fun x1 => .call [] [] (nat_Cmp_ok x0 x1) .no fun x2 => .ret (x2 == 0)) Tryz.func170 (by kernel_rfl) (by kernel_rfl) (by kernel_rfl)

def nat_Right (a : List Int) : Option Bool :=
 (limb_Low a).bind fun x0 =>
 some (x0 == ((a.length : Nat) : Int))

theorem nat_Right_ok (a : List Int) : ∀ r, nat_Right a = some r → ACallsD Tryz.prog 169 0 [SL (cI .u32) a] [] (B r) [] :=
  acalls_T (enc := fun r => B r) (encH := fun r => []) 10 (.call [] [] (limb_Low_ok a) .no fun x0 => .op 10006 (.ln (cI .u32) a) (.ret (x0 == ((a.length : Nat) : Int)))) Tryz.func169 (by kernel_rfl) (by kernel_rfl) (by kernel_rfl)

def ratio_Right (a : Rat) : Option Bool :=
 (nat_Right a.Num).bind fun x0 =>
 bif x0 then
 (nat_Right a.Den).bind fun x1 =>
 bif x1 then
 (common_Apart a.Num a.Den).bind fun x2 =>
 bif x2 then
 bif decide (((a.Den.length : Nat) : Int) > 0) then
 bif a.Neg then
 some (!(((a.Num.length : Nat) : Int) == 0))
 else
 some true
 else
 some false
 else
 some false
 else
 some false
 else
 some false

theorem ratio_Right_ok (a : Rat) : ∀ r, ratio_Right a = some r → ACallsD Tryz.prog 113 0 [AG Rat.D a] [] (B r) [] :=
  acalls_T (enc := fun r => B r) (encH := fun r => []) 10 (.call [] [] (nat_Right_ok a.Num) .no fun x0 => .br 10008 (.call [] [] (nat_Right_ok a.Den) .no fun x1 => .br 10018 (.call [] [] (common_Apart_ok a.Num a.Den) .no fun x2 => .br 10032 (.op 10036 (.ln (cI .u32) a.Den) (.br 10044 (.br 10050 (.op 10054 (.ln (cI .u32) a.Num) (.ret (!(((a.Num.length : Nat) : Int) == 0)))) (.ret true)) (.ret false))) (.ret false)) (.ret false)) (.ret false)) Tryz.func113 (by kernel_rfl) (by kernel_rfl) (by kernel_rfl)

end Go.Ab.M
