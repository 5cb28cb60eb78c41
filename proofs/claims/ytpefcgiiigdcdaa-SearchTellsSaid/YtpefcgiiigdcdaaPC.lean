/-
  TEXTS PUT TOGETHER: PlN1, PlN2, PlN3, PlN4, PlN5, PlN6.
-/
import Derived.Test.YtpefcgiiigdcdaaPA
import Derived.Test.YtpefcgiiigdcdaaTD
section
/-
  PLAIN LAW: NATURAL NUMBERS BY WORDS (what a list of words comes to; words, without 0s at the end).
-/
namespace Go.Ab.M
set_option linter.unusedVariables false
set_option linter.unusedSimpArgs false

def isWd (x : Int) : Prop := 0 ≤ x ∧ x < 4294967296
def Wds (a : List Int) : Prop := ∀ x ∈ a, isWd x
theorem Wds.set {a : List Int} (h : Wds a) (i : Nat) {x : Int} (hx : isWd x) : Wds (a.set i x) := fun y hy => by
  rcases List.mem_or_eq_of_mem_set hy with h1 | h1
  · exact h y h1
  · rw [h1]; exact hx
theorem Wds.nil : Wds [] := fun x h => by cases h
theorem Wds.cons {a : List Int} {x : Int} (hx : isWd x) (h : Wds a) : Wds (x :: a) := fun y hy => by
  rcases List.mem_cons.1 hy with e | e
  · rw [e]; exact hx
  · exact h y e
theorem Wds.append {a b : List Int} (h : Wds a) (k : Wds b) : Wds (a ++ b) := fun y hy => by
  rcases List.mem_append.1 hy with e | e
  · exact h y e
  · exact k y e
/-- what a list of words comes to -/
def val : List Int → Nat
  | [] => 0
  | x :: r => x.toNat + 4294967296 * val r
/-- a number's words -/
def natW (n : Nat) : List Int := if n = 0 then [] else ((n % 4294967296 : Nat) : Int) :: natW (n / 4294967296)
termination_by n
decreasing_by omega
theorem natW_zero : natW 0 = [] := by unfold natW; simp
theorem natW_pos {n : Nat} (h : 0 < n) : natW n = ((n % 4294967296 : Nat) : Int) :: natW (n / 4294967296) := by
  rw [natW, if_neg (by omega)]
theorem natW_wds (n : Nat) : Wds (natW n) := by
  induction n using Nat.strongRecOn with
  | _ n ih =>
    rcases Nat.eq_zero_or_pos n with h | h
    · subst h; rw [natW_zero]; exact Wds.nil
    · rw [natW_pos h]
      exact Wds.cons ⟨by omega, by omega⟩ (ih _ (by omega))
theorem natW_len {n k : Nat} (h : n < 4294967296 ^ k) : (natW n).length ≤ k := by
  induction k generalizing n with
  | zero =>
    have : n = 0 := by simp at h; exact h
    subst this; rw [natW_zero]; simp
  | succ k ih =>
    rcases Nat.eq_zero_or_pos n with e | e
    · subst e; rw [natW_zero]; simp
    · rw [natW_pos e, List.length_cons]
      have := ih (n := n / 4294967296) (by rw [Nat.pow_succ] at h; omega)
      omega
/-- how many words there are, without 0s at the end -/
def lowN : List Int → Nat
  | [] => 0
  | x :: r => if lowN r = 0 then (if x = 0 then 0 else 1) else lowN r + 1
end Go.Ab.M
end

section
/-
  PLAIN LAW: NATURAL NUMBERS BY WORDS (words' operations; products).
-/
namespace Go.Ab.M
set_option linter.unusedVariables false
set_option linter.unusedSimpArgs false

end Go.Ab.M
end

section
/-
  PLAIN LAW: NATURAL NUMBERS BY WORDS (bits; what is greater; differences).
-/
namespace Go.Ab.M
set_option linter.unusedVariables false
set_option linter.unusedSimpArgs false

end Go.Ab.M
end

section
/-
  PLAIN LAW: NATURAL NUMBERS BY WORDS (differences; bits; division by a word).
-/
namespace Go.Ab.M
set_option linter.unusedVariables false
set_option linter.unusedSimpArgs false

/-! ### bits -/
end Go.Ab.M
end

section
/-
  PLAIN LAW: NATURAL NUMBERS BY WORDS (bits exactly; division).
-/
namespace Go.Ab.M
set_option linter.unusedVariables false
set_option linter.unusedSimpArgs false

/-! ### a number's words, place by place -/
/-! ### division -/
end Go.Ab.M
end

section
/-
  PLAIN LAW: NATURAL NUMBERS BY WORDS (long division; powers; the greatest common divisor; lowest terms).
-/
namespace Go.Ab.M
set_option linter.unusedVariables false
set_option linter.unusedSimpArgs false

/-! ### powers -/
/-! ### the greatest common divisor -/
/-- is a list of words right: without 0s at the end? -/
def isN (a : List Int) : Bool := lowN a == a.length
def isR (x : Rat) : Bool := isN x.Num && isN x.Den && decide (Nat.gcd (val x.Num) (val x.Den) = 1) && decide (0 < x.Den.length) && !(x.Neg && decide (x.Num.length = 0))
end Go.Ab.M
end
