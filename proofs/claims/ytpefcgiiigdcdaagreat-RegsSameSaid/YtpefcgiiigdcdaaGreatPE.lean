/-
  TEXTS PUT TOGETHER: PlG1, PlMade.
-/
import Derived.Test.YtpefcgiiigdcdaaGreatPD
import Derived.Test.YtpefcgiiigdcdaaGreatPB
import Derived.Test.YtpefcgiiigdcdaaGreatTD
section
/-
  PLAIN LAW: GRAPHS (right ones).
-/
namespace Go.Ab.M
set_option linter.unusedVariables false
set_option linter.unusedSimpArgs false

/-- does the pair of an edge fit? -/
def Graph.pairFits (g : Graph) (i : Nat) : Prop := 0 ≤ (nth g.Edges i).From ∧ (nth g.Edges i).From < g.Ins + g.Mids ∧ g.Ins ≤ (nth g.Edges i).To ∧ (nth g.Edges i).To < g.Ins + g.Mids + g.Outs ∧ (nth g.Edges i).From < (nth g.Edges i).To ∧
    (i = 0 ∨ (nth g.Edges (i - 1)).From < (nth g.Edges i).From ∨ ((nth g.Edges (i - 1)).From = (nth g.Edges i).From ∧ (nth g.Edges (i - 1)).To < (nth g.Edges i).To))
instance (g : Graph) (i : Nat) : Decidable (g.pairFits i) := by unfold Graph.pairFits; infer_instance
end Go.Ab.M
end

section
/-
  PLAIN LAW: THE GRAPHS MADE OF SMALL NUMBERS ARE RIGHT.
-/
namespace Go.Ab.M
set_option linter.unusedVariables false
set_option linter.unusedSimpArgs false

/-! ### the loops -/
end Go.Ab.M
end
