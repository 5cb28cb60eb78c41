/-
  TEXTS PUT TOGETHER: ClX.
-/
import Derived.Test.YthikenallhbkpaaGreatLS
import Derived.Test.YthikenallhbkpaaGreatTW
import Derived.Shelf.SlSortCmp.WholeK
import Derived.WalkKit
section
/-
  SLICES.SORTFUNC AT EDGES: the kit's contract laid at this program, for the program's orders.
  Conditions: none.
-/
namespace Go.Ab
open Go.Proofs Go.Proofs.YthikenallhbkpaaGreat Go.Shelf Go.RowKit Go.Lib Go.Sort
set_option maxRecDepth 100000
set_option linter.unusedVariables false
set_option linter.unusedSimpArgs false
end Go.Ab
namespace Go.Ab.M
open Go.Ab Go.Proofs Go.Proofs.YthikenallhbkpaaGreat Go.Shelf Go.RowKit Go.Lib Go.Sort
def cmpG (x y : Edge) : Int := if x.From < y.From then -1 else if y.From < x.From then 1 else if x.To < y.To then -1 else if y.To < x.To then 1 else 0
/-- no two have the same ends -/
def ApartG (l : List Edge) : Prop := l.Pairwise fun x y => x.From ≠ y.From ∨ x.To ≠ y.To
instance (l : List Edge) : Decidable (ApartG l) := by unfold ApartG; infer_instance
theorem ApartG.one : ∀ {l : List Edge}, ApartG l → ∀ a, a ∈ l → ∀ b, b ∈ l → a.From = b.From → a.To = b.To → a = b
  | [], _, a, ha, _, _, _, _ => by cases ha
  | x :: l, h, a, ha, b, hb, e1, e2 => by
    obtain ⟨h1, h2⟩ := List.pairwise_cons.1 h
    rcases List.mem_cons.1 ha with e | ha'
    · rcases List.mem_cons.1 hb with e' | hb'
      · rw [e, e']
      · have := h1 b hb'; rw [e] at e1 e2; omega
    · rcases List.mem_cons.1 hb with e' | hb'
      · have := h1 a ha'; rw [e'] at e1 e2; omega
      · exact ApartG.one h2 a ha' b hb' e1 e2
theorem or2G (x y : Int) : cmp_Or_int [x, y] = some (if x ≠ 0 then x else y) := by
  unfold cmp_Or_int cmp_Or_int_l
  have h0 : ∀ n, loopN (fun σ => cmp_Or_int_l_rd [x, y] σ) (n + 3) 0 = some (if x ≠ 0 then .inl x else if y ≠ 0 then .inl y else .inr ()) := fun n => by
    have r0 : cmp_Or_int_l_rd [x, y] 0 = if x ≠ 0 then some (.inr (.inl x)) else some (.inl 1) := by
      unfold cmp_Or_int_l_rd
      by_cases h : x = 0
      · subst h; rfl
      · have : (nth [x, y] 0 != 0) = true := by simpa [nth, bne] using h
        rw [this, if_pos h]; rfl
    have r1 : cmp_Or_int_l_rd [x, y] 1 = if y ≠ 0 then some (.inr (.inl y)) else some (.inl 2) := by
      unfold cmp_Or_int_l_rd
      by_cases h : y = 0
      · subst h; rfl
      · have : (nth [x, y] 1 != 0) = true := by simpa [nth, bne] using h
        rw [this, if_pos h]; rfl
    have r2 : cmp_Or_int_l_rd [x, y] 2 = some (.inr (.inr ())) := rfl
    by_cases hx : x = 0
    · by_cases hy : y = 0
      · rw [if_neg (by simpa using hx), if_neg (by simpa using hy)]
        simp only [loopN, r0, if_neg (show ¬ x ≠ 0 by simpa using hx), Option.bind_some, caseS, r1, if_neg (show ¬ y ≠ 0 by simpa using hy), r2]
      · rw [if_neg (by simpa using hx), if_pos hy]
        simp only [loopN, r0, if_neg (show ¬ x ≠ 0 by simpa using hx), Option.bind_some, caseS, r1, if_pos hy]
    · rw [if_pos hx]
      simp only [loopN, r0, if_pos hx, Option.bind_some, caseS]
  rw [show FU = 999999997 + 3 from rfl, h0]
  by_cases hx : x = 0
  · by_cases hy : y = 0
    · rw [if_neg (by simpa using hx), if_neg (by simpa using hy), if_neg (by simpa using hx), hy]; rfl
    · rw [if_neg (by simpa using hx), if_pos hy, if_neg (by simpa using hx)]; rfl
  · rw [if_pos hx, if_pos hx]; rfl
theorem compareG (x y : Int) : cmp_Compare_int x y = some (if x < y then -1 else if y < x then 1 else 0) := by
  unfold cmp_Compare_int cmp_isNaN_int
  simp only [Option.bind_some, bne_self_eq_false, cond_false]
  by_cases h : x < y
  · simp [h]
  · by_cases h2 : y < x
    · simp [h, h2]
    · simp [h, h2]
end Go.Ab.M
end
