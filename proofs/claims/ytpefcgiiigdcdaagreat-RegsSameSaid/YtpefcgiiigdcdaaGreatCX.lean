/-
  TEXTS PUT TOGETHER: ClX.
-/
import Derived.Test.YtpefcgiiigdcdaaGreatLS
import Derived.Test.YtpefcgiiigdcdaaGreatTW
import Derived.Shelf.SlSortCmp.WholeK
import Derived.WalkKit
section
/-
  SLICES.SORTFUNC AT EDGES: the kit's contract laid at this program, for the program's orders.
  Conditions: none.
-/
namespace Go.Ab
open Go.Proofs Go.Proofs.YtpefcgiiigdcdaaGreat Go.Shelf Go.RowKit Go.Lib Go.Sort
set_option maxRecDepth 100000
set_option linter.unusedVariables false
set_option linter.unusedSimpArgs false
end Go.Ab
namespace Go.Ab.M
open Go.Ab Go.Proofs Go.Proofs.YtpefcgiiigdcdaaGreat Go.Shelf Go.RowKit Go.Lib Go.Sort
/-- no two have the same ends -/
def ApartG (l : List Edge) : Prop := l.Pairwise fun x y => x.From ≠ y.From ∨ x.To ≠ y.To
instance (l : List Edge) : Decidable (ApartG l) := by unfold ApartG; infer_instance
theorem ApartG.one : ∀ {l : List Edge}, ApartG l → ∀ a, a ∈ l → ∀ b, b ∈ l → a.From = b.From → a.To = b.To → a = b
  | [], _, a, ha, _, _, _, _ => by cases ha
  | x :: l, h, a, ha, b, hb, e1, e2 => by
    obtain ⟨h1, h2⟩ := List.pairwise_cons.1 h
    rcases List.mem_cons.1 ha with e | ha'
    · rcases List.mem_cons.1 hb with e' | hb'
      · rw [e, e']
      · have := h1 b hb'; rw [e] at e1 e2; omega
    · rcases List.mem_cons.1 hb with e' | hb'
      · have := h1 a ha'; rw [e'] at e1 e2; omega
      · exact ApartG.one h2 a ha' b hb' e1 e2
end Go.Ab.M
end
