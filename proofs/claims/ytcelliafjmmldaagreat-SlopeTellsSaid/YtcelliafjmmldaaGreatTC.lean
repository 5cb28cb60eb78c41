import Derived.Test.YtcelliafjmmldaaGreatTB
import Derived.Test.YtcelliafjmmldaaGreatCG
namespace Go.Ab.M
open Go.Proofs
set_option linter.unusedVariables false
set_option maxRecDepth 100000
structure Rat where
 Neg : Bool
 Num : List Int
 Den : List Int
 deriving DecidableEq, Inhabited
abbrev Rat.D (x : Rat) : List D := [.v (.bool x.Neg), .sl (x.Num.map (cI .u32)), .sl (x.Den.map (cI .u32))]
def qwh_ (a : List Int) (b : List Int) : Option Bool :=
 (qhd_ a b).bind fun x0 =>
 (nat_Of 1).bind fun x1 =>
 (qUk_ x0 x1).bind fun x2 =>
 some (x2 == 0)
theorem quo_ (a : List Int) (b : List Int) : ∀ r, qwh_ a b = some r → ACallsD Tryz.prog 170 0 [SL (cI .u32) a, SL (cI .u32) b] [] (B r) [] :=
 acalls_T (enc := fun r => B r) (encH := fun r => []) 10 (.call [] [] (qEl_ a b) .no fun x0 => .call [] [] (qXb_ 1) .no fun x1 => .call [] [] (qdo_ x0 x1) .no fun x2 => .ret (x2 == 0)) Tryz.func170 (by kernel_rfl) (by kernel_rfl) (by kernel_rfl)
def qaj_ (a : List Int) : Option Bool :=
 (qqd_ a).bind fun x0 =>
 some (x0 == ((a.length : Nat) : Int))
theorem qVl_ (a : List Int) : ∀ r, qaj_ a = some r → ACallsD Tryz.prog 169 0 [SL (cI .u32) a] [] (B r) [] :=
 acalls_T (enc := fun r => B r) (encH := fun r => []) 10 (.call [] [] (qnd_ a) .no fun x0 => .op 10006 (.ln (cI .u32) a) (.ret (x0 == ((a.length : Nat) : Int)))) Tryz.func169 (by kernel_rfl) (by kernel_rfl) (by kernel_rfl)
def qQf_ (a : Rat) : Option Bool :=
 (qaj_ a.Num).bind fun x0 =>
 bif x0 then
 (qaj_ a.Den).bind fun x1 =>
 bif x1 then
 (qwh_ a.Num a.Den).bind fun x2 =>
 bif x2 then
 bif decide (((a.Den.length : Nat) : Int) > 0) then
 bif a.Neg then
 some (!(((a.Num.length : Nat) : Int) == 0))
 else
 some true
 else
 some false
 else
 some false
 else
 some false
 else
 some false
theorem qMp_ (a : Rat) : ∀ r, qQf_ a = some r → ACallsD Tryz.prog 108 0 [AG Rat.D a] [] (B r) [] :=
 acalls_T (enc := fun r => B r) (encH := fun r => []) 10 (.call [] [] (qVl_ a.Num) .no fun x0 => .br 10008 (.call [] [] (qVl_ a.Den) .no fun x1 => .br 10018 (.call [] [] (quo_ a.Num a.Den) .no fun x2 => .br 10032 (.op 10036 (.ln (cI .u32) a.Den) (.br 10044 (.br 10050 (.op 10054 (.ln (cI .u32) a.Num) (.ret (!(((a.Num.length : Nat) : Int) == 0)))) (.ret true)) (.ret false))) (.ret false)) (.ret false)) (.ret false)) Tryz.func108 (by kernel_rfl) (by kernel_rfl) (by kernel_rfl)
end Go.Ab.M
