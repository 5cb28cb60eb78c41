/-
  TEXTS PUT TOGETHER: AbS.
-/
import Derived.Test.YtpefcgiiigdcdaaGreatLC
import Derived.Shelf.SlSortCmp.WholeK
import Derived.Shelf.SlSortCmp.NoneTotal
section
/-
  SLICES.SORTFUNC ON A ROW THAT IS HANDED OVER: by the kit's contract; elements may have slices in them.
  Conditions: none. No project text.
-/
namespace Go.Ab
open Go.Proofs Go.RowKit Go.Lib Go.Shelf Go.Sort
set_option linter.unusedVariables false
set_option linter.unusedSimpArgs false

section
variable {P : Program} {ρ : Ren} {T : Type} {c : T → List D} {k : Nat} {cmp : T → T → Int}

end
end Go.Ab
end
