/-
  PLAIN LAW: SHAPES (the next shape, twice).
-/
import Derived.Test.YtgefhpoejihneaaPlSh2
namespace Go.Ab.M
set_option linter.unusedVariables false
set_option linter.unusedSimpArgs false

theorem has_lt {s : Shape} (h : s.right = true) {a b : Nat} (hh : s.has (a : Int) (b : Int) = true) : a < b ∧ b < s.n := by
  have hn := n_le h
  simp only [Shape.has, decide_eq_true_eq] at hh
  have := right_pair h hh
  simp only at this
  omega
theorem has_self {s : Shape} (h : s.right = true) (a : Nat) : s.has (a : Int) (a : Int) = false := by
  cases e : s.has (a : Int) (a : Int)
  · rfl
  · have := has_lt h e; omega
theorem ins_has {s : Shape} {a w : Int} : a ∈ insOf s.All w ↔ s.has a w = true := by simp only [mem_ins, Shape.has, decide_eq_true_eq]
theorem outs_has {s : Shape} {w b : Int} : b ∈ outsOf s.All w ↔ s.has w b = true := by simp only [mem_outs, Shape.has, decide_eq_true_eq]
theorem ins_nat {s : Shape} (h : s.right = true) {w : Nat} {i : Nat} (hi : i < (insOf s.All w).length) : ∃ f : Nat, nth (insOf s.All w) i = f ∧ f < s.n ∧ f < w ∧ s.has (f : Int) (w : Int) = true := by
  have hm := nth_mem hi
  have hm2 := ins_has.1 hm
  have hp := right_pair h (mem_ins.1 hm)
  simp only at hp
  have hn := n_le h
  obtain ⟨f, e⟩ : ∃ f : Nat, nth (insOf s.All w) i = f := ⟨(nth (insOf s.All w) i).toNat, by omega⟩
  rw [e] at hp hm2
  exact ⟨f, e, by omega, by omega, hm2⟩
theorem outs_nat {s : Shape} (h : s.right = true) {w : Nat} {i : Nat} (hi : i < (outsOf s.All w).length) : ∃ f : Nat, nth (outsOf s.All w) i = f ∧ f < s.n ∧ w < f ∧ s.has (w : Int) (f : Int) = true := by
  have hm := nth_mem hi
  have hm2 := outs_has.1 hm
  have hp := right_pair h (mem_outs.1 hm)
  simp only at hp
  have hn := n_le h
  obtain ⟨f, e⟩ : ∃ f : Nat, nth (outsOf s.All w) i = f := ⟨(nth (outsOf s.All w) i).toNat, by omega⟩
  rw [e] at hp hm2
  exact ⟨f, e, by omega, by omega, hm2⟩

/-- the inner loop of the joins -/
theorem Next_l_2_eq {s : Shape} (h : s.right = true) (hl : s.All.length ≤ 2000000) {w i f : Nat} (t : Shape) (hf : nth (insOf s.All w) i = (f : Int)) (hf2 : f < s.n) {L0 : List (Nat → Int)} (hL : L0.length = s.n) (hW : AllW L0) :
    ∃ L, shape_Next_l_2 t w (insOf s.All w, outsOf s.All w) i 0 L0 = some L ∧ (L.length = s.n ∧ AllW L ∧ ∀ a b, hasF (nth L a) b = (hasF (nth L0 a) b || (decide (a = f) && s.has (w : Int) (b : Int)))) := by
  have hlen := outsOf_len s.All w
  have hn := n_le h
  unfold shape_Next_l_2
  refine loop_inv (fun j σ => σ.1 = j ∧ σ.2.length = s.n ∧ AllW σ.2 ∧ ∀ a b, hasF (nth σ.2 a) b = (hasF (nth L0 a) b || (decide (a = f) && decide ((b : Int) ∈ (outsOf s.All w).take j)))) (outsOf s.All w).length (0, L0) ?_ ?_ ?_ (by simp only [FU]; omega)
  · exact ⟨rfl, hL, hW, fun a b => by simp⟩
  · rintro j ⟨k, L⟩ hj ⟨h0, h1, h2, h3⟩
    simp only at h0 h1 h2 h3
    subst h0
    obtain ⟨g, hg, hg2, -, -⟩ := outs_nat h hj
    obtain ⟨L', g1, g2, g3, g4⟩ := put_eq h2 (bi := f) (v := g) (by omega) (by omega)
    refine ⟨(k + 1, L'), ?_, rfl, by simp only; omega, g3, fun a b => ?_⟩
    · simp (disch := omega) only [shape_Next_l_2_rd, hf, hg, Int.toNat_natCast, g1, Bool.cond_decide, if_t, Option.bind_some, inK_i64, cond_true]
    · simp only [g4, h3, take_nth hj, List.mem_append, List.mem_singleton, hg, Bool.decide_or, Int.ofNat_inj]
      cases hasF (nth L0 a) b <;> cases decide (a = f) <;> simp
  · rintro ⟨k, L⟩ ⟨h0, h1, h2, h3⟩
    simp only at h0 h1 h2 h3
    subst h0
    refine ⟨L, by simp [shape_Next_l_2_rd], h1, h2, fun a b => ?_⟩
    rw [h3 a b, List.take_length]
    congr 2
    simp only [outs_has, Bool.decide_eq_true]
theorem Next_l_eq {s : Shape} (h : s.right = true) (hl : s.All.length ≤ 2000000) {w : Nat} (hw : w < s.n) (t : Shape) {L0 : List (Nat → Int)} (hL : L0.length = s.n) (hW : AllW L0) (hH : ∀ a b, a < s.n → hasF (nth L0 a) b = s.has a b) :
    ∃ L, shape_Next_l t w (insOf s.All w, outsOf s.All w) 0 L0 = some L ∧ (L.length = s.n ∧ AllW L ∧ ∀ a b, a < s.n → hasF (nth L a) b = (decide (b ≠ w) && (s.has a b || (s.has (a : Int) (w : Int) && s.has (w : Int) (b : Int))))) := by
  have hlen := insOf_len s.All w
  have hn := n_le h
  unfold shape_Next_l
  refine loop_inv (fun j σ => σ.1 = j ∧ σ.2.length = s.n ∧ AllW σ.2 ∧ ∀ a b, a < s.n → hasF (nth σ.2 a) b = ((s.has a b && !(decide ((a : Int) ∈ (insOf s.All w).take j) && decide (b = w))) || (decide ((a : Int) ∈ (insOf s.All w).take j) && s.has (w : Int) (b : Int)))) (insOf s.All w).length (0, L0) ?_ ?_ ?_ (by simp only [FU]; omega)
  · refine ⟨rfl, hL, hW, fun a b ha => ?_⟩
    simp only [List.take_zero, List.not_mem_nil, decide_false, Bool.false_and, Bool.not_false, Bool.and_true, Bool.or_false]
    exact hH a b ha
  · rintro j ⟨k, L⟩ hj ⟨h0, h1, h2, h3⟩
    simp only at h0 h1 h2 h3
    subst h0
    obtain ⟨f, hf, hf2, -, -⟩ := ins_nat h hj
    obtain ⟨L', g1, g2, g3, g4⟩ := drop_eq h2 (bi := f) (v := w) (by omega) (by omega)
    obtain ⟨L'', k1, k2, k3, k4⟩ := Next_l_2_eq h hl (i := k) t hf hf2 (L0 := L') (by omega) g3
    refine ⟨(k + 1, L''), ?_, rfl, by simp only; omega, k3, fun a b ha => ?_⟩
    · simp (disch := omega) only [shape_Next_l_rd, hf, Int.toNat_natCast, g1, k1, Bool.cond_decide, if_t, Option.bind_some, inK_i64, cond_true]
    · have e : decide ((a : Int) ∈ (insOf s.All w).take (k + 1)) = (decide ((a : Int) ∈ (insOf s.All w).take k) || decide (a = f)) := by
        simp only [take_nth hj, List.mem_append, List.mem_singleton, hf, Bool.decide_or, Int.ofNat_inj]
      have hs := has_self h w
      simp only [k4, g4, h3 a b ha, e]
      by_cases eb : b = w
      · subst eb; simp only [hs, decide_true]
        cases s.has a b <;> cases decide ((a : Int) ∈ (insOf s.All b).take k) <;> cases decide (a = f) <;> rfl
      · simp only [eb, decide_false]
        cases s.has a b <;> cases decide ((a : Int) ∈ (insOf s.All w).take k) <;> cases decide (a = f) <;> cases s.has (w : Int) (b : Int) <;> rfl
  · rintro ⟨k, L⟩ ⟨h0, h1, h2, h3⟩
    simp only at h0 h1 h2 h3
    subst h0
    refine ⟨L, by simp [shape_Next_l_rd], h1, h2, fun a b ha => ?_⟩
    rw [h3 a b ha, List.take_length]
    have e : decide ((a : Int) ∈ insOf s.All w) = s.has (a : Int) (w : Int) := by simp only [ins_has, Bool.decide_eq_true]
    have hs := has_self h w
    rw [e]
    by_cases eb : b = w
    · subst eb; simp only [hs, decide_true, ne_eq, not_true_eq_false, decide_false]
      cases s.has (a : Int) (b : Int) <;> rfl
    · simp only [eb, decide_false, ne_eq, not_false_eq_true, decide_true]
      cases s.has (a : Int) (b : Int) <;> cases s.has (a : Int) (w : Int) <;> cases s.has (w : Int) (b : Int) <;> rfl

/-- is a pair of numbers in the next shape? -/
def nextP (s : Shape) (w a b : Nat) : Bool := decide (a ≠ w) && decide (b ≠ w) && (s.has (a : Int) (b : Int) || (s.has (a : Int) (w : Int) && s.has (w : Int) (b : Int)))

theorem Next_l_4_eq {n : Nat} {t : Shape} {a : Int} {x : List Int × List Int} {y L : List (Nat → Int)} {i : Nat} {o : List Pair} (hn : n ≤ 480) (hL : L.length = n) (hW : AllW L) (hi : i < n) (ho : o.length ≤ 2000000) :
    shape_Next_l_4 t a x y i L 0 o = some (o ++ rowTo (fun a b => hasF (nth L a) b) i n) := by
  unfold shape_Next_l_4
  have := loop_run (round := fun σ : Nat × List Pair => shape_Next_l_4_rd t a x y i L σ.1 σ.2) (fun j => (j, o ++ rowTo (fun a b => hasF (nth L a) b) i j)) n (r := o ++ rowTo (fun a b => hasF (nth L a) b) i n) (fun j hj => ?_) ?_ (by simp only [FU]; omega)
  · simpa [rowTo] using this
  · have hr := rowTo_len (fun a b => hasF (nth L a) b) i j
    have hq := has_eq hW (bi := i) (v := j) (by omega) (by omega)
    have hlen : (o ++ rowTo (fun a b => hasF (nth L a) b) i j).length = o.length + (rowTo (fun a b => hasF (nth L a) b) i j).length := List.length_append ..
    simp (disch := omega) only [shape_Next_l_4_rd, hq, Bool.cond_decide, if_t, Option.bind_some, inK_i64, cond_true, rowTo_step]
    cases e : hasF (nth L i) j <;> simp [e]
  · simp [shape_Next_l_4_rd, hL]
theorem Next_l_3_eq {n : Nat} {t : Shape} {w : Nat} {x : List Int × List Int} {y L : List (Nat → Int)} (hn : n ≤ 480) (hy : y.length = n) (hL : L.length = n) (hW : AllW L) :
    shape_Next_l_3 t w x y 0 [] L = some (pairsTo n (fun a b => hasF (nth L a) b) n) := by
  unfold shape_Next_l_3
  refine loop_run (round := fun σ : Nat × List Pair × List (Nat → Int) => shape_Next_l_3_rd t w x y σ.1 σ.2.1 σ.2.2) (fun i => (i, pairsTo n (fun a b => hasF (nth L a) b) i, L)) n (fun i hi => ?_) ?_ (by simp only [FU]; omega)
  · have hp := pairsTo_len n (fun a b => hasF (nth L a) b) i
    have hb : i * n ≤ 480 * 480 := Nat.mul_le_mul (by omega) hn
    simp (disch := omega) only [shape_Next_l_3_rd, List.length_set, hy, Next_l_4_eq hn hL hW hi, Bool.cond_decide, if_t, Option.bind_some, inK_i64, cond_true, pairsTo_step]
  · simp [shape_Next_l_3_rd, hy]

theorem Next22_rd {s : Shape} (h : s.right = true) (hl : s.All.length ≤ 2000000) {w i j : Nat} {o : List Pair} (hi : i < s.n) (hj : j < s.n) (ho : o.length ≤ 2000000) :
    ref22_Next_l_2_rd s w i j o = some (.inl (j + 1, if nextP s w i j = true then o ++ [Pair.mk (i : Int) (j : Int)] else o)) := by
  have hn := n_le h
  have e1 : inK .i64 ((j : Int) + 1) = true := inK_i64 (by omega) (by omega)
  have e2 : decide ((j : Int) < s.Ins + s.Mids + s.Outs) = true := by simp only [decide_eq_true_eq]; omega
  have e3 : decide (o.length + 1 ≤ 2147483648) = true := by simp only [decide_eq_true_eq]; omega
  have b1 : ∀ i : Nat, ((i : Int) != (w : Int)) = decide (i ≠ w) := fun i => by
    rw [Bool.eq_iff_iff]; simp only [bne_iff_ne, decide_eq_true_eq]; omega
  simp only [ref22_Next_l_2_rd, ref22_Has_eq hl, Option.bind_some, e1, e2, e3, cond_true, nextP, b1]
  rcases Bool.eq_false_or_eq_true (s.has (i : Int) (j : Int)) with x1 | x1 <;> rcases Bool.eq_false_or_eq_true (s.has (i : Int) (w : Int)) with x2 | x2 <;> rcases Bool.eq_false_or_eq_true (s.has (w : Int) (j : Int)) with x3 | x3 <;>
    rcases Bool.eq_false_or_eq_true (decide (i ≠ w)) with x4 | x4 <;> rcases Bool.eq_false_or_eq_true (decide (j ≠ w)) with x5 | x5 <;> simp only [x1, x2, x3, x4, x5] <;> rfl
theorem Next22_l_2_eq {s : Shape} (h : s.right = true) (hl : s.All.length ≤ 2000000) {w i : Nat} {o : List Pair} (hi : i < s.n) (ho : o.length ≤ 1000000) :
    ref22_Next_l_2 s w i 0 o = some (o ++ rowTo (nextP s w) i s.n) := by
  have hn := n_le h
  unfold ref22_Next_l_2
  have := loop_run (round := fun σ : Nat × List Pair => ref22_Next_l_2_rd s w i σ.1 σ.2) (fun j => (j, o ++ rowTo (nextP s w) i j)) s.n (r := o ++ rowTo (nextP s w) i s.n) (fun j hj => ?_) ?_ (by simp only [FU]; omega)
  · simpa [rowTo] using this
  · have hr := rowTo_len (nextP s w) i j
    simp only [Next22_rd h hl hi hj (show (o ++ rowTo (nextP s w) i j).length ≤ 2000000 by rw [List.length_append]; omega), rowTo_step]
    cases e : nextP s w i j <;> simp [e]
  · have : ¬ (((s.n : Nat) : Int) < s.Ins + s.Mids + s.Outs) := by omega
    simp [ref22_Next_l_2_rd, this]
theorem Next22_l_eq {s : Shape} (h : s.right = true) (hl : s.All.length ≤ 2000000) {w : Nat} : ref22_Next_l s w 0 [] = some (pairsTo s.n (nextP s w) s.n) := by
  have hn := n_le h
  unfold ref22_Next_l
  refine loop_run (round := fun σ : Nat × List Pair => ref22_Next_l_rd s w σ.1 σ.2) (fun i => (i, pairsTo s.n (nextP s w) i)) s.n (fun i hi => ?_) ?_ (by simp only [FU]; omega)
  · have hp := pairsTo_len s.n (nextP s w) i
    have hb : i * s.n ≤ 480 * 480 := Nat.mul_le_mul (by omega) hn.1
    simp (disch := omega) only [ref22_Next_l_rd, Next22_l_2_eq h hl hi, Bool.cond_decide, if_t, Option.bind_some, inK_i64, cond_true, pairsTo_step]
  · have : ¬ (((s.n : Nat) : Int) < s.Ins + s.Mids + s.Outs) := by omega
    simp [ref22_Next_l_rd, this]

/-- what both say -/
def Shape.next (s : Shape) (v : Int) : Shape × Int × Int :=
  if s.right = true then (if s.isMid v = true then (Shape.mk s.Ins s.Mids s.Outs (pairsTo s.n (nextP s v.toNat) s.n), s.cost v, 0) else (Shape.mk 0 0 0 [], 0, 9)) else (Shape.mk 0 0 0 [], 0, 1)
theorem ref22_Next_eq {s : Shape} (hl : s.All.length ≤ 2000000) (v : Int) : ref22_Next s v = some (if s.right = true then (if s.isMid v = true then (Shape.mk s.Ins s.Mids s.Outs (pairsTo s.n (nextP s v.toNat) s.n), s.cost v, 0) else (Shape.mk 0 0 0 [], 0, 9)) else (Shape.mk 0 0 0 [], 0, 1)) := by
  cases hr : s.right with
  | false => simp [ref22_Next, ref22_Right_eq hl, hr]
  | true =>
    cases hm : s.isMid v with
    | false => simp [ref22_Next, ref22_Right_eq hl, ref22_Mid_eq hl, hr, hm]
    | true =>
      have hs := right_sized hr
      have hn := n_le hr
      have hv : s.Ins ≤ v ∧ v < s.Ins + s.Mids := by simpa [Shape.isMid] using hm
      obtain ⟨w, rfl⟩ : ∃ w : Nat, v = w := ⟨v.toNat, by omega⟩
      simp (disch := omega) only [ref22_Next, ref22_Right_eq hl, ref22_Mid_eq hl, ref22_Cost_eq hl, hr, hm, Option.bind_some, Bool.not_true, cond_false, Bool.and_self, inK_i64, cond_true, Next22_l_eq hr hl, if_true, Int.toNat_natCast]
theorem shape_Next_eq {s : Shape} (hl : s.All.length ≤ 2000000) (v : Int) : shape_Next s v = ref22_Next s v := by
  rw [ref22_Next_eq hl]
  cases hr : s.right with
  | false => simp [shape_Next, shape_Right_eq hl, hr]
  | true =>
    cases hm : s.isMid v with
    | false => simp [shape_Next, shape_Right_eq hl, shape_mid_eq hr, hr, hm]
    | true =>
      have hs := right_sized hr
      have hn := n_le hr
      have hv : s.Ins ≤ v ∧ v < s.Ins + s.Mids := by simpa [Shape.isMid] using hm
      obtain ⟨w, rfl⟩ : ∃ w : Nat, v = w := ⟨v.toNat, by omega⟩
      obtain ⟨L0, a1, a2, a3, a4, a5⟩ := rows_eq hr hl
      obtain ⟨L, b1, b2, b3, b4⟩ := Next_l_eq hr hl (w := w) (by omega) s a3 a4 a5
      have hc := shape_Cost_eq hl (w : Int)
      simp only [shape_Cost, shape_Right_eq hl, shape_mid_eq hr, hr, hm, Option.bind_some, Bool.not_true, cond_false, shape_ends_eq hl] at hc
      have hi := insOf_len s.All w
      have ho := outsOf_len s.All w
      have hmul := mul_ok (a := (insOf s.All w).length) (b := (outsOf s.All w).length) (by omega) (by omega)
      rw [hmul] at hc
      simp only [cond_true, Option.some.injEq] at hc
      rw [hc] at hmul
      have hset : AllW (L.set w (fun _ => 0)) := by
        intro i hi
        rw [nth_set (by omega)]
        split
        · exact wf_zero
        · exact b3 i (by simpa using hi)
      have e3 := Next_l_3_eq (t := s) (w := w) (x := (insOf s.All w, outsOf s.All w)) (y := L) (n := s.n) hn.1 b2 (by simpa using b2) hset
      have e4 : pairsTo s.n (fun a b => hasF (nth (L.set w (fun _ => 0)) a) b) s.n = pairsTo s.n (nextP s w) s.n := by
        refine pairsTo_congr (fun a b ha hb => ?_) s.n (Nat.le_refl _)
        rw [nth_set (by omega)]
        by_cases e : a = w
        · rw [if_pos e, has_zero]; simp [nextP, e]
        · rw [if_neg e, b4 a b ha]; simp [nextP, e]
      simp (disch := omega) only [shape_Next, shape_Right_eq hl, shape_mid_eq hr, hr, hm, Option.bind_some, Bool.not_true, cond_false, shape_ends_eq hl, a2, b1, Bool.cond_decide, if_t, Int.toNat_natCast, e3, e4, hmul, cond_true, if_true, hc]
end Go.Ab.M
