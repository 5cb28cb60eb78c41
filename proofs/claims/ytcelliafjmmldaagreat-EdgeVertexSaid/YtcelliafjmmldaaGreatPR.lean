/-
  TEXTS PUT TOGETHER: PlV8.
-/
import Derived.Test.YtcelliafjmmldaaGreatPO
import Derived.Test.YtcelliafjmmldaaGreatPN
import Derived.Test.YtcelliafjmmldaaGreatTK
section
/-
  PLAIN LAW: VERTICES THAT GO ONE BEHIND THE OTHER.
-/
namespace Go.Ab.M
open Go.Proofs Go.Ab
set_option linter.unusedVariables false
set_option linter.unusedSimpArgs false

theorem elT_some {t : Tab} {v i k : Nat} {q : _root_.Rat} (h : elT t v i k = some q) : i ≠ v ∧ k ≠ v ∧ ((∃ p, t i k = some p) ∨ ((∃ p, t i v = some p) ∧ ∃ p, t v k = some p)) := by
  unfold elT at h
  by_cases e : i = v ∨ k = v
  · rw [if_pos e] at h; cases h
  · rw [if_neg e] at h
    refine ⟨fun x => e (.inl x), fun x => e (.inr x), ?_⟩
    unfold stT at h
    split at h
    · rename_i hp
      simp only [Bool.and_eq_true, Option.isSome_iff_exists] at hp
      exact .inr hp
    · exact .inl ⟨q, h⟩
theorem T_gone {g : Graph} {I M O : Nat} (h : RGr g I M O) {x : Int} (hx : x ∈ g.Gone) {i k : Nat} {q : _root_.Rat} (hq : g.T i k = some q) : (i : Int) ≠ x ∧ (k : Int) ≠ x := by
  obtain ⟨w, hw, h1, h2, _⟩ := T_some h hq
  have := (h.gn x hx).2.2 w hw
  rw [h1, h2] at this
  exact this
theorem tabL_none {l : List PE} {i k : Nat} (h : ∀ e, e ∈ l → ¬ (e.f = i ∧ e.t = k)) : tabL l i k = none := by
  cases hq : tabL l i k with
  | none => rfl
  | some q =>
    obtain ⟨e, he, h1, h2, _⟩ := tabL_some hq
    exact absurd ⟨h1, h2⟩ (h e he)
/-! ### one behind the other -/
def szK : Nat → Nat
  | 0 => 1
  | k + 1 => 3 * szK k + 1
/-- a graph of small numbers, some of whose mids are gone -/
structure Inv (g : Graph) (I M O : Nat) : Prop where
  r : RGr g I M O
  m : M ≤ 5
  n : I + M + O ≤ 11
  ok : g.Ok (szK g.Gone.length)
end Go.Ab.M
end
