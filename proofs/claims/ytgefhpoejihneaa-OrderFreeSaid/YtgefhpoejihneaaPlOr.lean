/-
  PLAIN LAW: ORDERS (what is left is right; the least one; what greedy is).
-/
import Derived.Test.YtgefhpoejihneaaPlSh6
import Derived.Test.YtgefhpoejihneaaT5
namespace Go.Ab.M
set_option linter.unusedVariables false
set_option linter.unusedSimpArgs false

theorem right_of {s : Shape} (hz : s.sized = true) (hb : ∀ p ∈ s.All, 0 ≤ p.From ∧ p.From < s.Ins + s.Mids ∧ s.Ins ≤ p.To ∧ p.To < s.Ins + s.Mids + s.Outs ∧ p.From < p.To) (hs : s.All.Pairwise pairLt) : s.right = true := by
  simp only [Shape.right, hz, Bool.true_and]
  rw [List.all_eq_true]
  intro i hi
  have hi : i < s.All.length := by simpa using hi
  have h1 := hb _ (nth_mem hi)
  simp only [Shape.fits, Bool.and_eq_true, Bool.or_eq_true, decide_eq_true_eq]
  refine ⟨⟨⟨⟨⟨h1.1, h1.2.1⟩, h1.2.2.1⟩, h1.2.2.2.1⟩, h1.2.2.2.2⟩, ?_⟩
  rcases Nat.eq_zero_or_pos i with e | e
  · exact .inl (.inl e)
  · have := (List.pairwise_iff_getElem.1 hs) (i - 1) i (by omega) hi (by omega)
    rw [← nth_get, ← nth_get] at this
    rcases this with h | h
    · exact .inl (.inr h)
    · exact .inr h
theorem rowTo_sorted (P : Nat → Nat → Bool) (a j : Nat) : (rowTo P a j).Pairwise pairLt := by
  unfold rowTo
  rw [List.pairwise_map, List.pairwise_filter]
  refine List.pairwise_lt_range.imp fun {x y} h _ _ => ?_
  exact .inr ⟨rfl, Int.ofNat_lt.2 h⟩
theorem pairsTo_sorted (n : Nat) (P : Nat → Nat → Bool) : ∀ i, (pairsTo n P i).Pairwise pairLt
  | 0 => by simp [pairsTo]
  | i + 1 => by
    rw [pairsTo_step, List.pairwise_append]
    refine ⟨pairsTo_sorted n P i, rowTo_sorted P i n, fun p hp q hq => ?_⟩
    obtain ⟨a, b, ha, hb, _, rfl⟩ := mem_pairsTo.1 hp
    simp only [rowTo, List.mem_map] at hq
    obtain ⟨c, _, rfl⟩ := hq
    unfold pairLt; simp only; omega
theorem next_eq {s : Shape} (h : s.right = true) {v : Int} (hm : s.isMid v = true) : s.next v = (Shape.mk s.Ins s.Mids s.Outs (pairsTo s.n (nextP s v.toNat) s.n), s.cost v, 0) := by
  simp only [Shape.next, h, hm, if_true]
theorem next_right {s : Shape} (h : s.right = true) {v : Int} (hm : s.isMid v = true) : (s.next v).1.right = true := by
  rw [next_eq h hm]
  refine right_of ?_ (fun p hp => ?_) (pairsTo_sorted _ _ _)
  · simp only [Shape.right, Bool.and_eq_true] at h
    exact h.1
  · obtain ⟨a, b, ha, hb, hP, rfl⟩ := mem_pairsTo.1 hp
    simp only [nextP, Bool.and_eq_true, Bool.or_eq_true, Shape.has, decide_eq_true_eq] at hP
    rcases hP.2 with h1 | ⟨h1, h2⟩
    · exact right_pair h h1
    · have := right_pair h h1
      have := right_pair h h2
      simp only at *
      omega
theorem next_n {s : Shape} (h : s.right = true) {v : Int} (hm : s.isMid v = true) : (s.next v).1.n = s.n ∧ (s.next v).1.Ins = s.Ins ∧ (s.next v).1.Mids = s.Mids ∧ (s.next v).1.Outs = s.Outs ∧ (s.next v).1.All.length ≤ s.n * s.n := by
  rw [next_eq h hm]
  exact ⟨rfl, rfl, rfl, rfl, pairsTo_len _ _ _⟩

/-! ### the first least one -/
/-- where the first least one of the first k stands, and what it is -/
def amin (f : Int → Int) (m : List Int) : Nat → Nat × Int
  | 0 => (0, f (nth m 0))
  | k + 1 => if f (nth m k) < (amin f m k).2 then (k, f (nth m k)) else amin f m k
theorem amin_spec (f : Int → Int) (m : List Int) (h0 : 0 < m.length) : ∀ k, k ≤ m.length → (amin f m k).1 < m.length ∧ (amin f m k).2 = f (nth m (amin f m k).1) ∧ (∀ j, j < k → (amin f m k).2 ≤ f (nth m j)) ∧ (∀ j, j < (amin f m k).1 → (amin f m k).2 < f (nth m j)) ∧ ((amin f m k).1 < k ∨ (amin f m k).1 = 0)
  | 0, _ => ⟨h0, rfl, fun j hj => by omega, fun j hj => by simp [amin] at hj, .inr rfl⟩
  | k + 1, hk => by
    obtain ⟨h1, h2, h3, h4, h5⟩ := amin_spec f m h0 k (by omega)
    simp only [amin]
    split
    · rename_i hlt
      refine ⟨by simp only; omega, rfl, fun j hj => ?_, fun j hj => ?_, .inl (by simp only; omega)⟩
      · simp only
        by_cases e : j = k
        · subst e; exact Int.le_refl _
        · have := h3 j (by omega); omega
      · simp only at hj ⊢
        have := h3 j hj; omega
    · rename_i hlt
      refine ⟨h1, h2, fun j hj => ?_, h4, by omega⟩
      by_cases e : j = k
      · subst e; omega
      · exact h3 j (by omega)
/-- v is one of m, none is less, those of a lesser number are more -/
def Least (f : Int → Int) (m : List Int) (v : Int) : Prop := v ∈ m ∧ ∀ u ∈ m, f v ≤ f u ∧ (u < v → f v < f u)
theorem Least.unique {f : Int → Int} {m : List Int} {v u : Int} (h : Least f m v) (k : Least f m u) : v = u := by
  rcases Int.lt_trichotomy v u with e | e | e
  · have h1 := (k.2 v h.1).2 e
    have h2 := (h.2 u k.1).1
    omega
  · exact e
  · have h1 := (h.2 u k.1).2 e
    have h2 := (k.2 v h.1).1
    omega
def atMin (f : Int → Int) (m : List Int) : Nat := (amin f m m.length).1
theorem atMin_lt {f : Int → Int} {m : List Int} (h : 0 < m.length) : atMin f m < m.length := (amin_spec f m h m.length (Nat.le_refl _)).1
theorem atMin_least {f : Int → Int} {m : List Int} (h : 0 < m.length) (hs : m.Pairwise (· < ·)) : Least f m (nth m (atMin f m)) := by
  obtain ⟨h1, h2, h3, h4, h5⟩ := amin_spec f m h m.length (Nat.le_refl _)
  refine ⟨nth_mem h1, fun u hu => ?_⟩
  obtain ⟨j, hj, rfl⟩ := List.getElem_of_mem hu
  have h3' := h3 j hj
  rw [nth_get hj] at h3'
  refine ⟨by unfold atMin; omega, fun hlt => ?_⟩
  have hjl : j < (amin f m m.length).1 := by
    rcases Nat.lt_or_ge j (amin f m m.length).1 with e | e
    · exact e
    · have : nth m (atMin f m) ≤ m[j] := by
        rcases Nat.eq_or_lt_of_le e with e | e
        · unfold atMin; rw [e, nth_get hj]; exact Int.le_refl _
        · have := (List.pairwise_iff_getElem.1 hs) _ _ h1 hj e
          rw [← nth_get h1] at this
          exact Int.le_of_lt this
      omega
  have h4' := h4 j hjl
  rw [nth_get hj] at h4'
  unfold atMin; omega

/-- what a vertex is told as -/
def Shape.tell (fill : Bool) (s : Shape) (v : Int) : Int := if fill = true then s.fill v else s.cost v
/-- the mids, each the least one -/
def greedyP (fill : Bool) : Nat → Shape → List Int → List Int
  | 0, _, _ => []
  | n + 1, s, m => nth m (atMin (s.tell fill) m) :: greedyP fill n (s.next (nth m (atMin (s.tell fill) m))).1 (m.eraseIdx (atMin (s.tell fill) m))

theorem cutL_take (l : List Int) (ln i : Nat) (hi : i < ln) (hl : ln ≤ l.length) : (cutL l ln i (i + 1)).take (ln - 1) = (l.take ln).eraseIdx i := by
  apply List.ext_getElem?
  intro t
  rw [List.getElem?_take, cutL_get _ _ _ _ (by omega) (by omega) hl, List.getElem?_eraseIdx, List.getElem?_take, List.getElem?_take]
  by_cases h1 : t < i
  · rw [if_pos (by omega), if_pos h1, if_pos h1, if_pos (by omega)]
  · by_cases h2 : t < ln - 1
    · rw [if_pos h2, if_neg h1, if_neg h1, if_pos (by omega), if_pos (by omega)]
      congr 1; omega
    · rw [if_neg h2, if_neg h1, if_neg (by omega)]
theorem nth_take {l : List Int} {n i : Nat} (h : i < n) : nth (l.take n) i = nth l i := by
  simp only [nth, List.getD, List.getElem?_take, if_pos h]
end Go.Ab.M
