/-
  TEXTS PUT TOGETHER: PlQ3.
-/
import Derived.Test.YtpefcgiiigdcdaaPF
import Derived.Test.YtpefcgiiigdcdaaTF
section
/-
  PLAIN LAW: RATIONAL NUMBERS, AS THE DOCUMENT RECKONS.
-/
namespace Go.Ab.M
set_option linter.unusedVariables false
set_option linter.unusedSimpArgs false

/-! ### rational numbers -/
theorem ref08_Fix_eq {x : Rat} {n : Nat} (h : okL n x) (hn : n ≤ 3000) : ref08_Fix x = some (ofR (qR x)) := by
  obtain ⟨h1, h2, h3, h4⟩ := h
  simp only [ref08_Fix, ref08_lowest_eq (n := ⟨x.Neg, x.Num⟩) h1 h2 (by simp only; omega) (by omega), Option.bind_some]
  rfl
theorem Words_rd {a : List Int} {i : Nat} (hi : i < a.length) (hl : a.length ≤ 900000000) : ref01_Words_l_rd a a i = some (.inl (i + 1)) := by
  simp (disch := omega) only [ref01_Words_l_rd, Bool.cond_decide, if_t, bne_self_eq_false, cond_false, inK_i64, cond_true]
theorem ref01_Words_eq {a b : List Int} (hl : a.length ≤ 900000000) : ref01_Words a b = some (decide (a = b)) := by
  by_cases e : a.length = b.length
  · have e0 : (((a.length : Nat) : Int) != ((b.length : Nat) : Int)) = false := by rw [e]; exact bne_self_eq_false _
    simp only [ref01_Words, e0, cond_false]
    by_cases h : a = b
    · subst h
      have : ref01_Words_l a a 0 = some (.inr ()) := by
        unfold ref01_Words_l
        exact loop_run (round := fun σ : Nat => ref01_Words_l_rd a a σ) (fun i => i) a.length (fun i hi => Words_rd hi hl) (by simp only [ref01_Words_l_rd, Int.lt_irrefl, decide_false, cond_false]) (by simp only [FU]; omega)
      simp only [this, Option.bind_some, caseS_inr, decide_true]
    · have hne : ¬ (List.range a.length).all (fun i => nth a i == nth b i) = true := by
        intro hall
        refine h (List.ext_getElem e fun i h1 h2 => ?_)
        have := List.all_eq_true.1 hall i (by simpa using h1)
        rw [beq_iff_eq, nth_get h1, nth_get h2] at this
        exact this
      obtain ⟨j, j1, j2, j3⟩ := all_find a.length hne
      have : ref01_Words_l a b 0 = some (.inl ()) := by
        unfold ref01_Words_l
        refine loop_run (round := fun σ : Nat => ref01_Words_l_rd a b σ) (fun i => i) j (fun i hi => ?_) ?_ (by simp only [FU]; omega)
        · have q := j3 i hi
          rw [beq_iff_eq] at q
          simp (disch := omega) only [ref01_Words_l_rd, q, Bool.cond_decide, if_t, bne_self_eq_false, cond_false, inK_i64, cond_true]
        · have q : (nth a j != nth b j) = true := by
            rw [bne_iff_ne]; intro q
            rw [q, BEq.rfl] at j2; cases j2
          simp (disch := omega) only [ref01_Words_l_rd, q, Bool.cond_decide, if_t, cond_true]
      simp only [this, Option.bind_some, caseS_inl, decide_eq_false h]
  · have e0 : (((a.length : Nat) : Int) != ((b.length : Nat) : Int)) = true := by rw [bne_iff_ne]; omega
    have h : a ≠ b := fun h => e (by rw [h])
    simp only [ref01_Words, e0, cond_true, decide_eq_false h]
theorem ref08_Equal_eq {x y : Rat} (h1 : x.Num.length ≤ 900000000) (h2 : x.Den.length ≤ 900000000) : ref08_Equal x y = some (decide (x = y)) := by
  obtain ⟨a, n, d⟩ := x
  obtain ⟨a', n', d'⟩ := y
  simp only [ref08_Equal, ref01_Words_eq h1, ref01_Words_eq h2, Option.bind_some]
  by_cases q1 : a = a'
  · by_cases q2 : n = n'
    · subst q1; subst q2; simp
    · subst q1; simp [q2]
  · have e : (a == a') = false := by simpa using q1
    rw [e, cond_false]
    simp [q1]
theorem isR_dec {x : Rat} (h1 : Wds x.Num) (h2 : Wds x.Den) : decide (ofR (qR x) = x) = isR x := by
  rw [Bool.eq_iff_iff, decide_eq_true_eq]
  exact ⟨fun h => by rw [← h]; exact isR_ofR _, fun h => (ofR_of_isR h1 h2 h).symm⟩
theorem ref08_Right_eq {x : Rat} {n : Nat} (h : okL n x) (hn0 : 0 < n) (hn : n ≤ 3000) : ref08_Right x = some (isR x) := by
  have hs := h.sz hn0
  have he := ref08_Equal_eq (x := ofR (qR x)) (y := x) (by have := hs.num; simp only [ofR]; omega) (by have := hs.den; simp only [ofR]; omega)
  rw [isR_dec h.1 h.2.1] at he
  simp only [ref08_Right, ref08_Fix_eq h hn, he, Option.bind_some]
end Go.Ab.M
end
