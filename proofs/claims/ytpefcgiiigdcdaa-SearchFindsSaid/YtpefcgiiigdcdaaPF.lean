/-
  TEXTS PUT TOGETHER: PlQ2.
-/
import Derived.Test.YtpefcgiiigdcdaaPD
import Derived.Test.YtpefcgiiigdcdaaTD
section
/-
  PLAIN LAW: RATIONAL NUMBERS, AS THE PROGRAM RECKONS.
-/
namespace Go.Ab.M
set_option linter.unusedVariables false
set_option linter.unusedSimpArgs false

/-! ### sums of naturals -/
/-! ### integers -/
/-! ### rational numbers -/
theorem szQ.num {n : Nat} {q : _root_.Rat} (h : szQ n q) : (natW q.num.natAbs).length ≤ n := natW_len h.1
theorem szQ.den {n : Nat} {q : _root_.Rat} (h : szQ n q) : (natW q.den).length ≤ n := natW_len h.2
end Go.Ab.M
end
