/-
  TEXTS PUT TOGETHER: PlQ3.
-/
import Derived.Test.YtpefcgiiigdcdaaGreatPF
import Derived.Test.YtpefcgiiigdcdaaGreatTF
section
/-
  PLAIN LAW: RATIONAL NUMBERS, AS THE DOCUMENT RECKONS.
-/
namespace Go.Ab.M
set_option linter.unusedVariables false
set_option linter.unusedSimpArgs false

/-! ### rational numbers -/
theorem Words_rd {a : List Int} {i : Nat} (hi : i < a.length) (hl : a.length ≤ 900000000) : ref01_Words_l_rd a a i = some (.inl (i + 1)) := by
  simp (disch := omega) only [ref01_Words_l_rd, Bool.cond_decide, if_t, bne_self_eq_false, cond_false, inK_i64, cond_true]
theorem ref01_Words_eq {a b : List Int} (hl : a.length ≤ 900000000) : ref01_Words a b = some (decide (a = b)) := by
  by_cases e : a.length = b.length
  · have e0 : (((a.length : Nat) : Int) != ((b.length : Nat) : Int)) = false := by rw [e]; exact bne_self_eq_false _
    simp only [ref01_Words, e0, cond_false]
    by_cases h : a = b
    · subst h
      have : ref01_Words_l a a 0 = some (.inr ()) := by
        unfold ref01_Words_l
        exact loop_run (round := fun σ : Nat => ref01_Words_l_rd a a σ) (fun i => i) a.length (fun i hi => Words_rd hi hl) (by simp only [ref01_Words_l_rd, Int.lt_irrefl, decide_false, cond_false]) (by simp only [FU]; omega)
      simp only [this, Option.bind_some, caseS_inr, decide_true]
    · have hne : ¬ (List.range a.length).all (fun i => nth a i == nth b i) = true := by
        intro hall
        refine h (List.ext_getElem e fun i h1 h2 => ?_)
        have := List.all_eq_true.1 hall i (by simpa using h1)
        rw [beq_iff_eq, nth_get h1, nth_get h2] at this
        exact this
      obtain ⟨j, j1, j2, j3⟩ := all_find a.length hne
      have : ref01_Words_l a b 0 = some (.inl ()) := by
        unfold ref01_Words_l
        refine loop_run (round := fun σ : Nat => ref01_Words_l_rd a b σ) (fun i => i) j (fun i hi => ?_) ?_ (by simp only [FU]; omega)
        · have q := j3 i hi
          rw [beq_iff_eq] at q
          simp (disch := omega) only [ref01_Words_l_rd, q, Bool.cond_decide, if_t, bne_self_eq_false, cond_false, inK_i64, cond_true]
        · have q : (nth a j != nth b j) = true := by
            rw [bne_iff_ne]; intro q
            rw [q, BEq.rfl] at j2; cases j2
          simp (disch := omega) only [ref01_Words_l_rd, q, Bool.cond_decide, if_t, cond_true]
      simp only [this, Option.bind_some, caseS_inl, decide_eq_false h]
  · have e0 : (((a.length : Nat) : Int) != ((b.length : Nat) : Int)) = true := by rw [bne_iff_ne]; omega
    have h : a ≠ b := fun h => e (by rw [h])
    simp only [ref01_Words, e0, cond_true, decide_eq_false h]
theorem ref08_Equal_eq {x y : Rat} (h1 : x.Num.length ≤ 900000000) (h2 : x.Den.length ≤ 900000000) : ref08_Equal x y = some (decide (x = y)) := by
  obtain ⟨a, n, d⟩ := x
  obtain ⟨a', n', d'⟩ := y
  simp only [ref08_Equal, ref01_Words_eq h1, ref01_Words_eq h2, Option.bind_some]
  by_cases q1 : a = a'
  · by_cases q2 : n = n'
    · subst q1; subst q2; simp
    · subst q1; simp [q2]
  · have e : (a == a') = false := by simpa using q1
    rw [e, cond_false]
    simp [q1]
theorem num_len_zero (q : _root_.Rat) : ((((ofR q).Num.length : Nat) : Int) == 0) = decide (q = 0) := by
  rw [Bool.eq_iff_iff, beq_iff_eq, decide_eq_true_eq, ← Rat.num_eq_zero (q := q)]
  show (((natW q.num.natAbs).length : Nat) : Int) = 0 ↔ _
  rcases Nat.eq_zero_or_pos q.num.natAbs with e | e
  · rw [e, natW_zero]
    exact ⟨fun _ => by omega, fun _ => rfl⟩
  · have := natW_lenpos e; omega
theorem ref08_Of_eq {z : Int} (h1 : -9223372036854775808 ≤ z) (h2 : z ≤ 9223372036854775807) : ref08_Of z = some (ofR (z : _root_.Rat)) := by
  have hl : (natW z.natAbs).length ≤ 2 := natW_len (by omega)
  have lw := ref08_lowest_eq (n := ⟨decide (z < 0), natW z.natAbs⟩) (d := [1]) (natW_wds _) (Wds.cons ⟨by decide, by decide⟩ Wds.nil) (by simp only; omega) (by simp)
  simp only [val_natW, sgI_int] at lw
  rw [show val [1] = 1 by decide] at lw
  have e : mkRat z 1 = (z : _root_.Rat) := by
    refine Rat.ext ?_ ?_
    · rw [Rat.num_mkRat]; simp
    · rw [Rat.den_mkRat]; simp
  rw [e] at lw
  simp only [ref08_Of, ref07_Of_eq h1 h2, lw, Option.bind_some]
theorem All_same {l : List Rat} (hl : l.length ≤ 1000000) (hw : ∀ x ∈ l, x.Num.length ≤ 900000000 ∧ x.Den.length ≤ 900000000) : ref08_All l l = some true := by
  have e : ref08_All_l l l 0 = some (.inr ()) := by
    unfold ref08_All_l
    refine loop_run (round := fun σ : Nat => ref08_All_l_rd l l σ) (fun i => i) l.length (fun i hi => ?_) (by simp only [ref08_All_l_rd, Int.lt_irrefl, decide_false, cond_false]) (by simp only [FU]; omega)
    obtain ⟨w1, w2⟩ := hw _ (nth_mem hi)
    have he := ref08_Equal_eq (x := nth l i) (y := nth l i) w1 w2
    rw [decide_eq_true rfl] at he
    simp (disch := omega) only [ref08_All_l_rd, he, Bool.cond_decide, if_t, Option.bind_some, Bool.not_true, cond_false, inK_i64, cond_true]
  simp only [ref08_All, bne_self_eq_false, cond_false, e, Option.bind_some, caseS_inr]
end Go.Ab.M
end
