/-
  TEXTS PUT TOGETHER: PlPath, PlReach.
-/
import Derived.Test.YthikenallhbkpaaGreatPF
import Derived.Test.YthikenallhbkpaaGreatTC
section
/-
  WAYS THROUGH A GRAPH: sums over ways by a list of edges, from its front and from its end; sizes of such sums.
  Conditions: none.
-/
namespace Go.Ab.M
open Go.Proofs
set_option linter.unusedVariables false

/-- an edge: where it begins, where it ends, its label -/
structure PE where
  f : Nat
  t : Nat
  w : _root_.Rat
/-! ### sizes -/
/-- a number over a common denominator -/
def SZ (D M : Nat) (q : _root_.Rat) : Prop := ∃ z : Int, q = mkRat z D ∧ z.natAbs ≤ M
theorem SZ.zero (D M : Nat) : SZ D M 0 := ⟨0, (Rat.zero_mkRat D).symm, Nat.zero_le _⟩
theorem SZ.one : SZ 1 1 1 := ⟨1, rfl, Nat.le_refl _⟩
theorem SZ.sz {D M n : Nat} {q : _root_.Rat} (h : SZ D M q) (hD : D < 4294967296 ^ n) (hM : M < 4294967296 ^ n) (hn : 0 < n) : szQ n q := by
  obtain ⟨x, rfl, h2⟩ := h
  exact mkR_sz (Nat.lt_of_le_of_lt h2 hM) hD hn

end Go.Ab.M
end

section
/-
  REACHING THROUGH A GRAPH: from some vertices onward, and back from some; by a list of edges.
  Conditions: none.
-/
namespace Go.Ab.M
open Go.Proofs
set_option linter.unusedVariables false

/-- from where those of s are reached -/
def bkB (s : Nat → Bool) : List PE → Nat → Bool
  | [], v => s v
  | e :: r, v => if v = e.f then bkB s r v || bkB s r e.t else bkB s r v
end Go.Ab.M
end
