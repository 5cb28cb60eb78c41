/-
  TEXTS PUT TOGETHER: PlAw17.
-/
import Derived.Test.YtbimmkikjkhglaaGreatTI
section
/-
  PLAIN LAW: THE CHAPTER'S EXAMPLE (17).
-/
namespace Go.Ab.M
set_option maxRecDepth 100000
theorem awake17 : law17_awake = some true := by kernel_rfl
end Go.Ab.M
end
