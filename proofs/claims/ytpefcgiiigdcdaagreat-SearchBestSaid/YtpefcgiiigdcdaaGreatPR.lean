/-
  TEXTS PUT TOGETHER: PlV8.
-/
import Derived.Test.YtpefcgiiigdcdaaGreatPO
import Derived.Test.YtpefcgiiigdcdaaGreatPN
import Derived.Test.YtpefcgiiigdcdaaGreatTD
section
/-
  PLAIN LAW: VERTICES THAT GO ONE BEHIND THE OTHER.
-/
namespace Go.Ab.M
open Go.Proofs Go.Ab
set_option linter.unusedVariables false
set_option linter.unusedSimpArgs false

/-! ### one behind the other -/
def szK : Nat → Nat
  | 0 => 1
  | k + 1 => 3 * szK k + 1
/-- a graph of small numbers, some of whose mids are gone -/
structure Inv (g : Graph) (I M O : Nat) : Prop where
  r : RGr g I M O
  m : M ≤ 5
  n : I + M + O ≤ 11
  ok : g.Ok (szK g.Gone.length)
end Go.Ab.M
end
