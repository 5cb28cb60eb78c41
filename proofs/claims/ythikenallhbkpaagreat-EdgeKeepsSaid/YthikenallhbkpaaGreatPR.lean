/-
  TEXTS PUT TOGETHER: PlV8.
-/
import Derived.Test.YthikenallhbkpaaGreatPO
import Derived.Test.YthikenallhbkpaaGreatPN
import Derived.Test.YthikenallhbkpaaGreatTK
section
/-
  PLAIN LAW: VERTICES THAT GO ONE BEHIND THE OTHER.
-/
namespace Go.Ab.M
open Go.Proofs Go.Ab
set_option linter.unusedVariables false
set_option linter.unusedSimpArgs false

theorem T_gone {g : Graph} {I M O : Nat} (h : RGr g I M O) {x : Int} (hx : x ∈ g.Gone) {i k : Nat} {q : _root_.Rat} (hq : g.T i k = some q) : (i : Int) ≠ x ∧ (k : Int) ≠ x := by
  obtain ⟨w, hw, h1, h2, _⟩ := T_some h hq
  have := (h.gn x hx).2.2 w hw
  rw [h1, h2] at this
  exact this
theorem tabL_none {l : List PE} {i k : Nat} (h : ∀ e, e ∈ l → ¬ (e.f = i ∧ e.t = k)) : tabL l i k = none := by
  cases hq : tabL l i k with
  | none => rfl
  | some q =>
    obtain ⟨e, he, h1, h2, _⟩ := tabL_some hq
    exact absurd ⟨h1, h2⟩ (h e he)
/-! ### one behind the other -/
def szK : Nat → Nat
  | 0 => 1
  | k + 1 => 3 * szK k + 1
/-- a graph of small numbers, some of whose mids are gone -/
structure Inv (g : Graph) (I M O : Nat) : Prop where
  r : RGr g I M O
  m : M ≤ 5
  n : I + M + O ≤ 11
  ok : g.Ok (szK g.Gone.length)
end Go.Ab.M
end
