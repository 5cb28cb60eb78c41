/-
  TEXTS PUT TOGETHER: PlV1, PlV2, PlV3, PlV4, PlV5, PlV6, PlV7, PlVAw.
-/
import Derived.Test.YtpefcgiiigdcdaaGreatPL
import Derived.Test.YtpefcgiiigdcdaaGreatPB
import Derived.Test.YtpefcgiiigdcdaaGreatTD
section
/-
  PLAIN LAW: TABLES OF LABELS, AND MAPS THAT TELL THEM.
-/
namespace Go.Ab.M
open Go.Proofs Go.Ab
set_option linter.unusedVariables false
set_option linter.unusedSimpArgs false

abbrev Tab := Nat → Nat → Option _root_.Rat
def updT (t : Tab) (i k : Nat) (q : _root_.Rat) : Tab := fun a b => if a = i ∧ b = k then some q else t a b

/-! ### the table without a vertex -/
def szT (s : Nat) (t : Tab) : Prop := ∀ i k q, t i k = some q → szQ s q
/-! ### maps -/
section
variable {K V : Type} [DecidableEq K]
end

/-! ### rows and columns -/
end Go.Ab.M
end

section
/-
  PLAIN LAW: A VERTEX THAT GOES, AS THE PROGRAM TELLS.
-/
namespace Go.Ab.M
open Go.Proofs Go.Ab
set_option linter.unusedVariables false
set_option linter.unusedSimpArgs false

/-! ### where edges come from, and where they go -/
end Go.Ab.M
end

section
/-
  PLAIN LAW: A VERTEX THAT GOES, AS THE PROGRAM TELLS: ITS LOOPS.
-/
namespace Go.Ab.M
open Go.Proofs Go.Ab
set_option linter.unusedVariables false
set_option linter.unusedSimpArgs false

end Go.Ab.M
end

section
/-
  PLAIN LAW: A VERTEX THAT GOES, AS THE DOCUMENT SAYS: TABLES.
-/
namespace Go.Ab.M
open Go.Proofs Go.Ab
set_option linter.unusedVariables false
set_option linter.unusedSimpArgs false

section
variable {a b c : Int} {es : List Edge} {gn : List Int} {n : Nat} {t : Tab} {o1 : List Bool} {o2 : List Rat}
end
end Go.Ab.M
end

section
/-
  PLAIN LAW: A VERTEX THAT GOES: THE PROGRAM TELLS WHAT THE DOCUMENT SAYS.
-/
namespace Go.Ab.M
open Go.Proofs Go.Ab
set_option linter.unusedVariables false
set_option linter.unusedSimpArgs false

end Go.Ab.M
end

section
/-
  PLAIN LAW: A VERTEX THAT GOES: WHAT BOTH TELL.
-/
namespace Go.Ab.M
open Go.Proofs Go.Ab
set_option linter.unusedVariables false
set_option linter.unusedSimpArgs false

end Go.Ab.M
end

section
/-
  PLAIN LAW: A VERTEX THAT GOES: BOTH TELL ONE.
-/
namespace Go.Ab.M
open Go.Proofs Go.Ab
set_option linter.unusedVariables false
set_option linter.unusedSimpArgs false

end Go.Ab.M
end

section
/-
  PLAIN LAW: THE CHAPTER'S EXAMPLE OF A VERTEX.
-/
namespace Go.Ab.M
open Go.Proofs Go.Ab
set_option linter.unusedVariables false
end Go.Ab.M
end
