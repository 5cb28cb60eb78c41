import Derived.Test.YtcelliafjmmldaaGreatTG
namespace Go.Ab.M
open Go.Proofs
set_option linter.unusedVariables false
set_option maxRecDepth 100000

def ref16_All_l_rd (a : List Edge) (b : List Edge) (i : Nat) : Option (Nat ⊕ (Unit ⊕ Unit)) :=
 bif decide (((i : Nat) : Int) < ((a.length : Nat) : Int)) then
 bif decide (i < a.length) then
 bif decide (i < b.length) then
 (ref08_Equal ((nth a i).W) ((nth b i).W)).bind fun x0 =>
 bif !x0 then
 some (.inr (.inl ()))
 else
 bif decide (i < a.length) then
 bif decide (i < b.length) then
 bif ((nth a i).From) != ((nth b i).From) then
 some (.inr (.inl ()))
 else
 bif decide (i < a.length) then
 bif decide (i < b.length) then
 bif ((nth a i).To) != ((nth b i).To) then
 some (.inr (.inl ()))
 else
 bif inK .i64 (((i : Nat) : Int) + 1) then
 some (.inl (i + 1))
 else none
 else none
 else none
 else none
 else none
 else none
 else none
 else
 some (.inr (.inr ()))

def ref16_All_l (a : List Edge) (b : List Edge) (i : Nat) : Option (Unit ⊕ Unit) := loopN (fun (σ : Nat) => ref16_All_l_rd a b σ) FU i

def ref16_All (a : List Edge) (b : List Edge) : Option Bool :=
 bif ((a.length : Nat) : Int) != ((b.length : Nat) : Int) then
 some false
 else
 (ref16_All_l a b 0).bind fun y_ => caseS y_ (fun x0 =>
 some false)
 (fun x1 =>
 some true)

end Go.Ab.M
