/-
  TEXTS PUT TOGETHER: PlSh, PlSh2, PlSh3, PlSh4, PlSort, PlSh5, PlSh6, PlOr, PlOr2, PlOr3, PlOr4, PlFree.
-/
import Derived.Test.YtpefcgiiigdcdaaGreatPA
import Derived.Test.YtpefcgiiigdcdaaGreatTA
section
/-
  PLAIN LAW: SHAPES (right ones, costs).
-/
namespace Go.Ab.M
set_option linter.unusedVariables false
set_option linter.unusedSimpArgs false

/-- does the pair at a place fit? -/
def Shape.fits (s : Shape) (i : Nat) : Bool :=
  decide (0 ≤ (nth s.All i).From) && decide ((nth s.All i).From < s.Ins + s.Mids) && decide (s.Ins ≤ (nth s.All i).To) && decide ((nth s.All i).To < s.Ins + s.Mids + s.Outs) && decide ((nth s.All i).From < (nth s.All i).To) &&
    (decide (i = 0) || decide ((nth s.All (i - 1)).From < (nth s.All i).From) || decide ((nth s.All (i - 1)).From = (nth s.All i).From) && decide ((nth s.All (i - 1)).To < (nth s.All i).To))
def Shape.sized (s : Shape) : Bool := decide (1 ≤ s.Ins) && decide (s.Ins ≤ 40) && decide (1 ≤ s.Outs) && decide (s.Outs ≤ 40) && decide (0 ≤ s.Mids) && decide (s.Mids ≤ 400)
def Shape.right (s : Shape) : Bool := s.sized && (List.range s.All.length).all s.fits
def Shape.isMid (s : Shape) (v : Int) : Bool := decide (s.Ins ≤ v) && decide (v < s.Ins + s.Mids)

def insOf (l : List Pair) (v : Int) : List Int := (l.filter fun p => p.To == v).map (·.From)
def outsOf (l : List Pair) (v : Int) : List Int := (l.filter fun p => p.From == v).map (·.To)
def Shape.cost (s : Shape) (v : Int) : Int := if s.right = true ∧ s.isMid v = true then ((insOf s.All v).length : Int) * ((outsOf s.All v).length : Int) else 0
def Shape.has (s : Shape) (a b : Int) : Bool := decide (Pair.mk a b ∈ s.All)
end Go.Ab.M
end

section
/-
  PLAIN LAW: SHAPES (what is left without a vertex).
-/
namespace Go.Ab.M
set_option linter.unusedVariables false
set_option linter.unusedSimpArgs false

/-! ### a right shape in natural numbers -/
def Shape.n (s : Shape) : Nat := (s.Ins + s.Mids + s.Outs).toNat
def pairsTo (n : Nat) (P : Nat → Nat → Bool) (i : Nat) : List Pair := (List.range i).flatMap fun a => ((List.range n).filter (P a)).map fun (b : Nat) => Pair.mk (a : Int) (b : Int)
end Go.Ab.M
end

section
/-
  PLAIN LAW: SHAPES (the next shape, twice).
-/
namespace Go.Ab.M
set_option linter.unusedVariables false
set_option linter.unusedSimpArgs false

/-- is a pair of numbers in the next shape? -/
def nextP (s : Shape) (w a b : Nat) : Bool := decide (a ≠ w) && decide (b ≠ w) && (s.has (a : Int) (b : Int) || (s.has (a : Int) (w : Int) && s.has (w : Int) (b : Int)))

/-- what both say -/
def Shape.next (s : Shape) (v : Int) : Shape × Int × Int :=
  if s.right = true then (if s.isMid v = true then (Shape.mk s.Ins s.Mids s.Outs (pairsTo s.n (nextP s v.toNat) s.n), s.cost v, 0) else (Shape.mk 0 0 0 [], 0, 9)) else (Shape.mk 0 0 0 [], 0, 1)
end Go.Ab.M
end

section
/-
  PLAIN LAW: SHAPES (fill, sameness, and the law).
-/
namespace Go.Ab.M
set_option linter.unusedVariables false
set_option linter.unusedSimpArgs false

end Go.Ab.M
end

section
/-
  PLAIN LAW: SORTING OF SHORT LISTS BY INSERTION.
-/
namespace Go.Ab
end Go.Ab
namespace Go.Ab.M
set_option linter.unusedVariables false
set_option linter.unusedSimpArgs false

end Go.Ab.M
end

section
/-
  PLAIN LAW: SHAPES (orders).
-/
namespace Go.Ab
end Go.Ab
namespace Go.Ab.M
set_option linter.unusedVariables false
set_option linter.unusedSimpArgs false

/-- so many numbers from one on -/
def rowOf (f : Int) (m : Nat) : List Int := (List.range m).map fun i : Nat => f + (i : Int)
/-- is each there just once? -/
def eachB (f : Int) (m : Nat) (o : List Int) : Bool := decide (o.Perm (rowOf f m))

end Go.Ab.M
end

section
/-
  PLAIN LAW: SHAPES (all mids gone in an order; the law).
-/
namespace Go.Ab.M
set_option linter.unusedVariables false
set_option linter.unusedSimpArgs false

/-- what is left, and what it cost, step by step -/
def stepsOf (s : Shape) (o : List Int) : Nat → Int × Shape
  | 0 => (0, s)
  | i + 1 => ((stepsOf s o i).1 + ((stepsOf s o i).2.next (nth o i)).2.1, ((stepsOf s o i).2.next (nth o i)).1)
/-- what both say of an order -/
def Shape.all (s : Shape) (o : List Int) : Int × Int := if s.right = true then (if eachB s.Ins s.Mids.toNat o = true then ((stepsOf s o o.length).1, 0) else (0, 9)) else (0, 1)
end Go.Ab.M
end

section
/-
  PLAIN LAW: ORDERS (what is left is right; the least one; what greedy is).
-/
namespace Go.Ab.M
set_option linter.unusedVariables false
set_option linter.unusedSimpArgs false

/-! ### the first least one -/
end Go.Ab.M
end

section
/-
  PLAIN LAW: ORDERS (the program's greedy).
-/
namespace Go.Ab.M
set_option linter.unusedVariables false
set_option linter.unusedSimpArgs false

end Go.Ab.M
end

section
/-
  PLAIN LAW: ORDERS (the document's greedy).
-/
namespace Go.Ab.M
set_option linter.unusedVariables false
set_option linter.unusedSimpArgs false

end Go.Ab.M
end

section
/-
  PLAIN LAW: ORDERS (rising, falling, by a rule; the law).
-/
namespace Go.Ab.M
set_option linter.unusedVariables false
set_option linter.unusedSimpArgs false

end Go.Ab.M
end

section
/-
  PLAIN LAW: CHAINS (each vertex that goes costs one).
-/
namespace Go.Ab.M
set_option linter.unusedVariables false
set_option linter.unusedSimpArgs false

/-! ### an order by a rule has every mid -/
/-! ### the law -/
end Go.Ab.M
end
