/-
  TEXTS PUT TOGETHER: PlR1, PlR2, PlQ.
-/
import Derived.Test.YtpefcgiiigdcdaaPC
import Derived.Test.YtpefcgiiigdcdaaTD
section
/-
  PLAIN LAW: THE DOCUMENT'S NATURAL NUMBERS (words, products by a word, what is greater, differences, division bit by bit).
-/
namespace Go.Ab.M
set_option linter.unusedVariables false
set_option linter.unusedSimpArgs false

/-! ### division bit by bit -/
end Go.Ab.M
end

section
/-
  PLAIN LAW: THE DOCUMENT'S NATURAL NUMBERS (division, the greatest common divisor, lowest terms), AND RATIONAL NUMBERS.
-/
namespace Go.Ab.M
set_option linter.unusedVariables false
set_option linter.unusedSimpArgs false

/-! ### the greatest common divisor, by halves -/
end Go.Ab.M
end

section
/-
  PLAIN LAW: RATIONAL NUMBERS: what a Rat comes to, the right one, and the document's lowest terms.
-/
namespace Go.Ab.M
set_option linter.unusedVariables false
set_option linter.unusedSimpArgs false

/-- the right Rat of a number -/
def ofR (q : _root_.Rat) : Rat := ⟨decide (q.num < 0), natW q.num.natAbs, natW q.den⟩
/-- the parts are words, not more than so many -/
def okL (n : Nat) (x : Rat) : Prop := Wds x.Num ∧ Wds x.Den ∧ x.Num.length ≤ n ∧ x.Den.length ≤ n
/-- a number whose parts have not more than so many words -/
def szQ (n : Nat) (q : _root_.Rat) : Prop := q.num.natAbs < 4294967296 ^ n ∧ q.den < 4294967296 ^ n
theorem szQ.ok {n : Nat} {q : _root_.Rat} (h : szQ n q) : okL n (ofR q) := ⟨natW_wds _, natW_wds _, natW_len h.1, natW_len h.2⟩
end Go.Ab.M
end
