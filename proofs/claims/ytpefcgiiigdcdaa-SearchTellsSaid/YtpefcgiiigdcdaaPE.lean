/-
  TEXTS PUT TOGETHER: PlG1, PlMade.
-/
import Derived.Test.YtpefcgiiigdcdaaPD
import Derived.Test.YtpefcgiiigdcdaaPB
import Derived.Test.YtpefcgiiigdcdaaTS
section
/-
  PLAIN LAW: GRAPHS (right ones).
-/
namespace Go.Ab.M
set_option linter.unusedVariables false
set_option linter.unusedSimpArgs false

theorem Index_eq {s : List Int} (hl : s.length ≤ 1000000) (v : Int) : ∃ r, slices_Index_int_int s v = some r ∧ (r ≥ 0 ↔ v ∈ s) := by
  by_cases h : v ∈ s
  · obtain ⟨p, hp⟩ : ∃ p : Nat → Bool, p = fun i => !(v == nth s i) := ⟨_, rfl⟩
    have hne : ¬ (List.range s.length).all p = true := by
      intro hall
      obtain ⟨i, hi, e⟩ := List.getElem_of_mem h
      have := List.all_eq_true.1 hall i (by simpa using hi)
      rw [hp] at this
      simp only [nth_get hi, e, BEq.rfl, Bool.not_true] at this
      cases this
    obtain ⟨j, j1, j2, j3⟩ := all_find s.length hne
    have run : slices_Index_int_int_l s v 0 = some (.inl j) := by
      unfold slices_Index_int_int_l
      refine loop_run (round := fun σ : Nat => slices_Index_int_int_l_rd s v σ) (fun i => i) j (fun i hi => ?_) ?_ (by simp only [FU]; omega)
      · have := j3 i hi
        rw [hp] at this
        have e : (v == nth s i) = false := by simpa only [Bool.not_eq_true'] using this
        simp (disch := omega) only [slices_Index_int_int_l_rd, e, cond_false, Bool.cond_decide, if_t, inK_i64, cond_true]
      · rw [hp] at j2
        have e : (v == nth s j) = true := by simpa only [Bool.not_eq_false'] using j2
        simp (disch := omega) only [slices_Index_int_int_l_rd, e, Bool.cond_decide, if_t, cond_true]
    refine ⟨(j : Int), by simp only [slices_Index_int_int, run, Option.bind_some, caseS_inl], ?_⟩
    exact ⟨fun _ => h, fun _ => by omega⟩
  · have run : slices_Index_int_int_l s v 0 = some (.inr ()) := by
      unfold slices_Index_int_int_l
      refine loop_run (round := fun σ : Nat => slices_Index_int_int_l_rd s v σ) (fun i => i) s.length (fun i hi => ?_) ?_ (by simp only [FU]; omega)
      · have e : (v == nth s i) = false := by
          rw [beq_eq_false_iff_ne]
          intro e
          exact h (by rw [e]; exact nth_mem hi)
        simp (disch := omega) only [slices_Index_int_int_l_rd, e, cond_false, Bool.cond_decide, if_t, inK_i64, cond_true]
      · simp only [slices_Index_int_int_l_rd, Int.lt_irrefl, decide_false, cond_false]
    refine ⟨-1, by simp only [slices_Index_int_int, run, Option.bind_some, caseS_inr], ?_⟩
    exact ⟨fun x => by omega, fun x => absurd x h⟩
theorem Contains_eq {s : List Int} (hl : s.length ≤ 1000000) (v : Int) : slices_Contains_int_int s v = some (decide (v ∈ s)) := by
  obtain ⟨r, r1, r2⟩ := Index_eq hl v
  simp only [slices_Contains_int_int, r1, Option.bind_some]
  congr 1
  rw [Bool.eq_iff_iff, decide_eq_true_eq, decide_eq_true_eq]
  exact r2
/-- does the pair of an edge fit? -/
def Graph.pairFits (g : Graph) (i : Nat) : Prop := 0 ≤ (nth g.Edges i).From ∧ (nth g.Edges i).From < g.Ins + g.Mids ∧ g.Ins ≤ (nth g.Edges i).To ∧ (nth g.Edges i).To < g.Ins + g.Mids + g.Outs ∧ (nth g.Edges i).From < (nth g.Edges i).To ∧
    (i = 0 ∨ (nth g.Edges (i - 1)).From < (nth g.Edges i).From ∨ ((nth g.Edges (i - 1)).From = (nth g.Edges i).From ∧ (nth g.Edges (i - 1)).To < (nth g.Edges i).To))
instance (g : Graph) (i : Nat) : Decidable (g.pairFits i) := by unfold Graph.pairFits; infer_instance
end Go.Ab.M
end

section
/-
  PLAIN LAW: THE GRAPHS MADE OF SMALL NUMBERS ARE RIGHT.
-/
namespace Go.Ab.M
set_option linter.unusedVariables false
set_option linter.unusedSimpArgs false

def edgeLt (p q : Edge) : Prop := p.From < q.From ∨ (p.From = q.From ∧ p.To < q.To)
/-! ### the loops -/
end Go.Ab.M
end
