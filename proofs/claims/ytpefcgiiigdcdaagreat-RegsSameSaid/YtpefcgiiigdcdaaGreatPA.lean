/-
  TEXTS PUT TOGETHER: Pl0, PlBit.
-/
import Derived.Test.YtpefcgiiigdcdaaGreatLC
section
/-
  PLAIN LEMMAS ABOUT LOOPS AND LISTS (no program in sight).
-/
namespace Go.Ab
set_option linter.unusedVariables false

theorem inK_i64 {n : Int} (h1 : -9223372036854775808 ≤ n) (h2 : n ≤ 9223372036854775807) : inK .i64 n = true := by simp [inK, lo, hi, h1, h2]
theorem if_t {α : Type} {c : Prop} [Decidable c] {a b : α} (h : c) : (if c then a else b) = a := if_pos h
/-- a loop that goes through g 0, g 1, .. up to g m, and ends there -/
theorem loop_run {S R : Type} {round : S → Option (S ⊕ R)} (g : Nat → S) (m : Nat) {r : R} (hs : ∀ i, i < m → round (g i) = some (.inl (g (i + 1)))) (he : round (g m) = some (.inr r)) (hm : m < FU) : loopN round FU (g 0) = some r := by
  have key : ∀ d i n, i + d = m → d < n → loopN round n (g i) = some r := by
    intro d
    induction d with
    | zero =>
      intro i n hi hn
      obtain rfl : i = m := by omega
      cases n with
      | zero => omega
      | succ n => simp [loopN, he]
    | succ d ih =>
      intro i n hi hn
      cases n with
      | zero => omega
      | succ n =>
        simp only [loopN, hs i (by omega), Option.bind_some, caseS_inl]
        exact ih (i + 1) n (by omega) (by omega)
  exact key m 0 FU (by omega) hm
theorem all_find {p : Nat → Bool} (n : Nat) (h : ¬ (List.range n).all p = true) : ∃ j, j < n ∧ p j = false ∧ ∀ i, i < j → p i = true := by
  induction n with
  | zero => simp at h
  | succ n ih =>
    by_cases e : (List.range n).all p = true
    · refine ⟨n, by omega, ?_, fun i hi => List.all_eq_true.1 e i (by simpa using hi)⟩
      rw [List.range_succ, List.all_append, e] at h
      simpa using h
    · obtain ⟨j, h1, h2, h3⟩ := ih e
      exact ⟨j, by omega, h2, h3⟩
theorem take_nth {α : Type} [Inhabited α] {l : List α} {i : Nat} (h : i < l.length) : l.take (i + 1) = l.take i ++ [nth l i] := by
  rw [List.take_add_one, nth_some h]; rfl
theorem nth_mem {α : Type} [Inhabited α] {l : List α} {i : Nat} (h : i < l.length) : nth l i ∈ l := by rw [show nth l i = l[i] by simp [nth, List.getD, h]]; exact List.getElem_mem h
theorem nth_get {α : Type} [Inhabited α] {l : List α} {i : Nat} (h : i < l.length) : nth l i = l[i] := by simp [nth, List.getD, h]
theorem FU_eq : FU = 1000000000 := rfl
/-- a loop with an invariant -/
theorem loop_inv {S R : Type} {round : S → Option (S ⊕ R)} {Q : R → Prop} (I : Nat → S → Prop) (m : Nat) (s0 : S) (h0 : I 0 s0) (step : ∀ i s, i < m → I i s → ∃ s', round s = some (.inl s') ∧ I (i + 1) s')
    (last : ∀ s, I m s → ∃ r, round s = some (.inr r) ∧ Q r) (hm : m < FU) : ∃ r, loopN round FU s0 = some r ∧ Q r := by
  have key : ∀ d i n s, i + d = m → d < n → I i s → ∃ r, loopN round n s = some r ∧ Q r := by
    intro d
    induction d with
    | zero =>
      intro i n s hi hn h
      obtain rfl : i = m := by omega
      obtain ⟨r, h1, h2⟩ := last s h
      cases n with
      | zero => omega
      | succ n => exact ⟨r, by simp [loopN, h1], h2⟩
    | succ d ih =>
      intro i n s hi hn h
      obtain ⟨s', h1, h2⟩ := step i s (by omega) h
      cases n with
      | zero => omega
      | succ n =>
        obtain ⟨r, h3, h4⟩ := ih (i + 1) n s' (by omega) (by omega) h2
        exact ⟨r, by simp [loopN, h1, h3], h4⟩
  exact key m 0 FU s0 (by omega) hm h0
end Go.Ab
end

section
/-
  PLAIN LAW: WORDS OF 64 BITS AS SETS.
-/
namespace Go.Ab
set_option linter.unusedVariables false

def isW (x : Int) : Prop := 0 ≤ x ∧ x < 18446744073709551616
theorem isW_nat {n : Nat} (h : n < 2 ^ 64) : isW (n : Int) := ⟨Int.natCast_nonneg _, by omega⟩
theorem wrap_u64 {n : Int} (h : isW n) : IntKind.u64.wrap n = n := wrap_id (k := .u64) ⟨h.1, by have := h.2; simp only [hi]; omega⟩
theorem bv_toNat {x : Int} (h : isW x) : (BitVec.ofInt 64 x).toNat = x.toNat := by
  obtain ⟨n, rfl⟩ : ∃ n : Nat, x = n := ⟨x.toNat, by have := h.1; omega⟩
  have h2 : n < 2 ^ 64 := by have := h.2; omega
  simp [Nat.mod_eq_of_lt h2]
theorem orI_eq (a b : Int) : orI' .u64 a b = IntKind.u64.wrap ((BitVec.ofInt 64 a ||| BitVec.ofInt 64 b).toNat : Int) := rfl
end Go.Ab
end
