import Derived.Test.YtcelliafjmmldaaGreatTE
namespace Go.Ab.M
open Go.Proofs
set_option linter.unusedVariables false
set_option maxRecDepth 100000

def ref01_Words_l_rd (a : List Int) (b : List Int) (i : Nat) : Option (Nat ⊕ (Unit ⊕ Unit)) :=
 bif decide (((i : Nat) : Int) < ((a.length : Nat) : Int)) then
 bif decide (i < a.length) then
 bif decide (i < b.length) then
 bif (nth a i) != (nth b i) then
 some (.inr (.inl ()))
 else
 bif inK .i64 (((i : Nat) : Int) + 1) then
 some (.inl (i + 1))
 else none
 else none
 else none
 else
 some (.inr (.inr ()))

def ref01_Words_l (a : List Int) (b : List Int) (i : Nat) : Option (Unit ⊕ Unit) := loopN (fun (σ : Nat) => ref01_Words_l_rd a b σ) FU i

def ref01_Words (a : List Int) (b : List Int) : Option Bool :=
 bif ((a.length : Nat) : Int) != ((b.length : Nat) : Int) then
 some false
 else
 (ref01_Words_l a b 0).bind fun y_ => caseS y_ (fun x0 =>
 some false)
 (fun x1 =>
 some true)

def ref08_Equal (a : Rat) (b : Rat) : Option Bool :=
 bif a.Neg == b.Neg then
 (ref01_Words a.Num b.Num).bind fun x0 =>
 bif x0 then
 (ref01_Words a.Den b.Den).bind fun x1 =>
 some x1
 else
 some false
 else
 some false

end Go.Ab.M
