/-
  PLAIN LAW: SORTING OF SHORT LISTS BY INSERTION.
-/
import Derived.Test.YtgefhpoejihneaaPlSh2
namespace Go.Ab
/-- a loop with a measure -/
theorem loop_mu {S R : Type} {round : S → Option (S ⊕ R)} {Q : R → Prop} (I : S → Prop) (μ : S → Nat) (step : ∀ s, I s → (∃ s', round s = some (.inl s') ∧ I s' ∧ μ s' < μ s) ∨ ∃ r, round s = some (.inr r) ∧ Q r) (s0 : S) (h0 : I s0) (hm : μ s0 < FU) : ∃ r, loopN round FU s0 = some r ∧ Q r := by
  have key : ∀ n s, I s → μ s < n → ∃ r, loopN round n s = some r ∧ Q r := by
    intro n
    induction n with
    | zero => intro s _ h; omega
    | succ n ih =>
      intro s hs hn
      rcases step s hs with ⟨s', h1, h2, h3⟩ | ⟨r, h1, h2⟩
      · obtain ⟨r, h4, h5⟩ := ih s' h2 (by omega)
        exact ⟨r, by simp [loopN, h1, h4], h5⟩
      · exact ⟨r, by simp [loopN, h1], h2⟩
  exact key FU s0 h0 hm
end Go.Ab
namespace Go.Ab.M
set_option linter.unusedVariables false
set_option linter.unusedSimpArgs false

theorem Less_eq (x y : Int) : cmp_Less_int x y = some (decide (x < y)) := by
  simp only [cmp_Less_int, cmp_isNaN_int, Option.bind_some, bne_self_eq_false, cond_false]
/-- sorted up to a place -/
def SortedTo (d : List Int) (i : Nat) : Prop := ∀ p q, p < q → q < i → nth d p ≤ nth d q
theorem swap_nth {d : List Int} {k : Nat} (hk : k < d.length) (h0 : 0 < k) (x : Nat) : nth ((d.set k (nth d (k - 1))).set (k - 1) (nth d k)) x = if x = k - 1 then nth d k else if x = k then nth d (k - 1) else nth d x := by
  rw [nth_set (by rw [List.length_set]; omega), nth_set hk]
theorem swap_perm {d : List Int} {k : Nat} (hk : k < d.length) (h0 : 0 < k) : ((d.set k (nth d (k - 1))).set (k - 1) (nth d k)).Perm d := by
  rw [nth_get hk, nth_get (show k - 1 < d.length by omega)]
  exact List.set_set_perm hk (by omega)
theorem ins_round {b i : Int} {k : Nat} {d : List Int} (hk : k < d.length) (hl : d.length ≤ 1000000) (h0 : 0 < k) :
    slices_insertionSortOrdered_int_l_4_rd 0 b i k d = some (if nth d k < nth d (k - 1) then .inl (((k - 1 : Nat) : Int), (d.set k (nth d (k - 1))).set (k - 1) (nth d k)) else .inr d) := by
  have e1 : ((k : Nat) : Int).toNat = k := Int.toNat_natCast k
  have e2 : (((k : Nat) : Int) - 1).toNat = k - 1 := by omega
  have e3 : ((k : Nat) : Int) - 1 = ((k - 1 : Nat) : Int) := by omega
  simp (disch := omega) only [slices_insertionSortOrdered_int_l_4_rd, e1, e2, Less_eq, Option.bind_some, Bool.cond_decide, if_t, inK_i64, cond_true, List.length_set]
  split
  · rw [e3]
  · rfl
theorem ins_round0 {b i : Int} {d : List Int} : slices_insertionSortOrdered_int_l_4_rd 0 b i ((0 : Nat) : Int) d = some (.inr d) := by
  simp [slices_insertionSortOrdered_int_l_4_rd]
theorem ins_inner {b : Int} {i : Nat} {d0 : List Int} (hi : i < d0.length) (hl : d0.length ≤ 1000000) (hs : SortedTo d0 i) :
    ∃ r, slices_insertionSortOrdered_int_l_4 0 b i i d0 = some r ∧ (r.length = d0.length ∧ r.Perm d0 ∧ SortedTo r (i + 1)) := by
  unfold slices_insertionSortOrdered_int_l_4
  refine loop_mu (fun σ : Int × List Int => ∃ k : Nat, σ.1 = k ∧ k ≤ i ∧ σ.2.length = d0.length ∧ σ.2.Perm d0 ∧ (∀ p q, p < q → q ≤ i → p ≠ k → q ≠ k → nth σ.2 p ≤ nth σ.2 q) ∧ (∀ q, k < q → q ≤ i → nth σ.2 k ≤ nth σ.2 q)) (fun σ => σ.1.toNat) ?_ ((i : Int), d0) ?_ (by simp only [FU]; omega)
  · rintro ⟨j, d⟩ ⟨k, h0, h1, h2, h3, h4, h5⟩
    simp only at h0 h1 h2 h3 h4 h5
    subst h0
    by_cases hk : k = 0
    · subst hk
      refine .inr ⟨d, ins_round0, h2, h3, fun p q hpq hq => ?_⟩
      by_cases hp : p = 0
      · subst hp; exact h5 q (by omega) (by omega)
      · exact h4 p q hpq (by omega) hp (by omega)
    · have hr := ins_round (b := b) (i := (i : Int)) (k := k) (d := d) (by omega) (by omega) (by omega)
      by_cases hlt : nth d k < nth d (k - 1)
      · rw [if_pos hlt] at hr
        refine .inl ⟨_, hr, ⟨k - 1, rfl, by omega, ?_, (swap_perm (by omega) (by omega)).trans h3, ?_, ?_⟩, ?_⟩
        · simp only [List.length_set]; exact h2
        · intro p q hpq hq hp1 hq1
          simp only [swap_nth (show k < d.length by omega) (show 0 < k by omega)]
          rw [if_neg hp1, if_neg hq1]
          by_cases hp : p = k
          · rw [if_pos hp, if_neg (by omega)]; exact h4 (k - 1) q (by omega) hq (by omega) (by omega)
          · rw [if_neg hp]
            by_cases hq2 : q = k
            · rw [if_pos hq2]; exact h4 p (k - 1) (by omega) (by omega) hp (by omega)
            · rw [if_neg hq2]; exact h4 p q hpq hq hp hq2
        · intro q hq1 hq2
          simp only [swap_nth (show k < d.length by omega) (show 0 < k by omega)]
          rw [if_pos trivial, if_neg (by omega)]
          by_cases hq : q = k
          · rw [if_pos hq]; omega
          · rw [if_neg hq]; exact h5 q (by omega) hq2
        · simp only; omega
      · rw [if_neg hlt] at hr
        refine .inr ⟨d, hr, h2, h3, fun p q hpq hq => ?_⟩
        by_cases hp : p = k
        · subst hp; exact h5 q (by omega) (by omega)
        · by_cases hq2 : q = k
          · by_cases hp2 : p = k - 1
            · rw [hp2, hq2]; omega
            · have := h4 p (k - 1) (by omega) (by omega) hp (by omega)
              rw [hq2]; omega
          · exact h4 p q hpq (by omega) hp hq2
  · exact ⟨i, rfl, Nat.le_refl _, rfl, .refl _, fun p q hpq hq _ hq2 => hs p q hpq (by omega), fun q h1 h2 => by omega⟩
theorem ins_outer {d0 : List Int} (h0 : 0 < d0.length) (hl : d0.length ≤ 1000000) :
    ∃ r, slices_insertionSortOrdered_int_l_3 0 (d0.length : Nat) 1 d0 = some r ∧ (r.length = d0.length ∧ r.Perm d0 ∧ SortedTo r d0.length) := by
  unfold slices_insertionSortOrdered_int_l_3
  refine loop_inv (fun t (σ : Int × List Int) => σ.1 = ((t + 1 : Nat) : Int) ∧ σ.2.length = d0.length ∧ σ.2.Perm d0 ∧ SortedTo σ.2 (t + 1)) (d0.length - 1) (1, d0) ⟨rfl, rfl, .refl _, fun p q hpq hq => by omega⟩ ?_ ?_ (by simp only [FU]; omega)
  · rintro t ⟨j, d⟩ ht ⟨e, h1, h2, h3⟩
    simp only at e h1 h2 h3
    subst e
    obtain ⟨r, g1, g2, g3, g4⟩ := ins_inner (b := ((d0.length : Nat) : Int)) (i := t + 1) (d0 := d) (by omega) (by omega) h3
    refine ⟨(((t + 1 + 1 : Nat) : Int), r), ?_, rfl, by simp only; omega, g3.trans h2, g4⟩
    simp (disch := omega) only [slices_insertionSortOrdered_int_l_3_rd, g1, Option.bind_some, Bool.cond_decide, if_t, inK_i64, cond_true]
    rfl
  · rintro ⟨j, d⟩ ⟨e, h1, h2, h3⟩
    simp only at e h1 h2 h3
    subst e
    refine ⟨d, ?_, h1, h2, ?_⟩
    · simp (disch := omega) only [slices_insertionSortOrdered_int_l_3_rd, Bool.cond_decide, if_f]
    · rw [show d0.length - 1 + 1 = d0.length by omega] at h3; exact h3
theorem Len_some : ∀ n : Nat, n < 13 → ∃ r, math_bits_Len (IntKind.wrap .u64 (n : Int)) = some r := by
  intro n hn
  rcases n with _ | _ | _ | _ | _ | _ | _ | _ | _ | _ | _ | _ | _ | n
  all_goals first | omega | exact Option.isSome_iff_exists.1 (by kernel_rfl)
theorem Sort_eq {o : List Int} (h0 : 0 < o.length) (hl : o.length ≤ 12) : ∃ r, slices_Sort_int_int_2 o = some r ∧ (r.length = o.length ∧ r.Perm o ∧ SortedTo r o.length) := by
  obtain ⟨x, hx⟩ := Len_some o.length (by omega)
  obtain ⟨r, h1, h2⟩ := ins_outer h0 (by omega)
  refine ⟨r, ?_, h2⟩
  have e : slices_pdqsortOrdered_int_l_2_rd o 0 ((o.length : Nat) : Int) x = some (.inr r) := by
    simp (disch := omega) only [slices_pdqsortOrdered_int_l_2_rd, slices_insertionSortOrdered_int_2, Int.sub_zero, Int.zero_add, h1, Option.bind_some, Bool.cond_decide, if_t, inK_i64, cond_true]
  have e2 : slices_pdqsortOrdered_int_l_2 o 0 ((o.length : Nat) : Int) x = some r := by
    unfold slices_pdqsortOrdered_int_l_2
    exact loop_run (round := fun (σ : Unit) => slices_pdqsortOrdered_int_l_2_rd o 0 ((o.length : Nat) : Int) x) (fun _ => ()) 0 (fun i hi => by omega) e (by simp only [FU]; omega)
  simp only [slices_Sort_int_int_2, slices_pdqsortOrdered_int_2, hx, e2, Option.bind_some]
end Go.Ab.M
