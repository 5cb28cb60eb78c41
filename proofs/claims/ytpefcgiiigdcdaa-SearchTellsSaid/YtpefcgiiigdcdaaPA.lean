/-
  TEXTS PUT TOGETHER: Pl0, PlBit.
-/
import Derived.Test.YtpefcgiiigdcdaaLC
section
/-
  PLAIN LEMMAS ABOUT LOOPS AND LISTS (no program in sight).
-/
namespace Go.Ab
set_option linter.unusedVariables false

theorem inK_i64 {n : Int} (h1 : -9223372036854775808 ≤ n) (h2 : n ≤ 9223372036854775807) : inK .i64 n = true := by simp [inK, lo, hi, h1, h2]
theorem if_t {α : Type} {c : Prop} [Decidable c] {a b : α} (h : c) : (if c then a else b) = a := if_pos h
theorem if_f {α : Type} {c : Prop} [Decidable c] {a b : α} (h : ¬ c) : (if c then a else b) = b := if_neg h
/-- a loop that goes through g 0, g 1, .. up to g m, and ends there -/
theorem loop_run {S R : Type} {round : S → Option (S ⊕ R)} (g : Nat → S) (m : Nat) {r : R} (hs : ∀ i, i < m → round (g i) = some (.inl (g (i + 1)))) (he : round (g m) = some (.inr r)) (hm : m < FU) : loopN round FU (g 0) = some r := by
  have key : ∀ d i n, i + d = m → d < n → loopN round n (g i) = some r := by
    intro d
    induction d with
    | zero =>
      intro i n hi hn
      obtain rfl : i = m := by omega
      cases n with
      | zero => omega
      | succ n => simp [loopN, he]
    | succ d ih =>
      intro i n hi hn
      cases n with
      | zero => omega
      | succ n =>
        simp only [loopN, hs i (by omega), Option.bind_some, caseS_inl]
        exact ih (i + 1) n (by omega) (by omega)
  exact key m 0 FU (by omega) hm
theorem all_find {p : Nat → Bool} (n : Nat) (h : ¬ (List.range n).all p = true) : ∃ j, j < n ∧ p j = false ∧ ∀ i, i < j → p i = true := by
  induction n with
  | zero => simp at h
  | succ n ih =>
    by_cases e : (List.range n).all p = true
    · refine ⟨n, by omega, ?_, fun i hi => List.all_eq_true.1 e i (by simpa using hi)⟩
      rw [List.range_succ, List.all_append, e] at h
      simpa using h
    · obtain ⟨j, h1, h2, h3⟩ := ih e
      exact ⟨j, by omega, h2, h3⟩
/-- a loop that looks for the first place where p does not hold -/
theorem loop_all {R : Type} {round : Nat → Option (Nat ⊕ R)} (p : Nat → Bool) (n : Nat) (good bad : R) (h1 : ∀ i, i < n → p i = true → round i = some (.inl (i + 1))) (h2 : ∀ i, i < n → p i = false → round i = some (.inr bad)) (h3 : round n = some (.inr good)) (hn : n < FU) :
    loopN round FU 0 = some (if (List.range n).all p = true then good else bad) := by
  by_cases h : (List.range n).all p = true
  · rw [if_pos h]
    exact loop_run (fun i => i) n (fun i hi => h1 i hi (List.all_eq_true.1 h i (by simpa using hi))) h3 hn
  · rw [if_neg h]
    obtain ⟨j, g1, g2, g3⟩ := all_find n h
    exact loop_run (fun i => i) j (fun i hi => h1 i (by omega) (g3 i hi)) (h2 j g1 g2) (by omega)

theorem take_nth {α : Type} [Inhabited α] {l : List α} {i : Nat} (h : i < l.length) : l.take (i + 1) = l.take i ++ [nth l i] := by
  rw [List.take_add_one, nth_some h]; rfl
theorem nth_mem {α : Type} [Inhabited α] {l : List α} {i : Nat} (h : i < l.length) : nth l i ∈ l := by rw [show nth l i = l[i] by simp [nth, List.getD, h]]; exact List.getElem_mem h
theorem nth_get {α : Type} [Inhabited α] {l : List α} {i : Nat} (h : i < l.length) : nth l i = l[i] := by simp [nth, List.getD, h]
end Go.Ab
end

section
/-
  PLAIN LAW: WORDS OF 64 BITS AS SETS.
-/
namespace Go.Ab
set_option linter.unusedVariables false

end Go.Ab
end
