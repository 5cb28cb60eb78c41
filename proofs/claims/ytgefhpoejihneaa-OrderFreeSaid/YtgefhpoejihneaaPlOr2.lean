/-
  PLAIN LAW: ORDERS (the program's greedy).
-/
import Derived.Test.YtgefhpoejihneaaPlOr
namespace Go.Ab.M
set_option linter.unusedVariables false
set_option linter.unusedSimpArgs false


theorem cost_e {s : Shape} (hl : s.All.length ≤ 1000) (ln : Nat) (row : List Int) (v : Int) : order_left_cost s.Ins s.Mids s.Outs s.All ln row v = some (s.tell false v) := by
  have h : shape_Cost (Shape.mk s.Ins s.Mids s.Outs s.All) v = some (s.cost v) := shape_Cost_eq (s := s) (by omega) v
  simp only [order_left_cost, h, Option.bind_some, Shape.tell, if_true, Bool.false_eq_true, if_false]
theorem least_rd {s : Shape} (hl : s.All.length ≤ 1000) {ln : Nat} {row : List Int} (h2 : ln ≤ row.length) (h3 : ln ≤ 1000) {k : Nat} (hk : k < ln) :
    order_left_least_l_rd s.Ins s.Mids s.Outs s.All ln row (amin (s.tell false) (row.take ln) k).1 (amin (s.tell false) (row.take ln) k).2 k = some (.inl ((amin (s.tell false) (row.take ln) (k + 1)).1, (amin (s.tell false) (row.take ln) (k + 1)).2, k + 1)) := by
  have e : nth (row.take ln) k = nth row k := nth_take hk
  by_cases hx : s.tell false (nth row k) < (amin (s.tell false) (row.take ln) k).2
  · simp (disch := omega) only [order_left_least_l_rd, cost_e hl, Bool.cond_decide, if_t, Option.bind_some, inK_i64, cond_true, amin, e, if_pos hx]
  · simp (disch := omega) only [order_left_least_l_rd, cost_e hl, Bool.cond_decide, if_t, Option.bind_some, inK_i64, cond_true, amin, e, if_neg hx]
theorem least_l {s : Shape} (hl : s.All.length ≤ 1000) {ln : Nat} {row : List Int} (h1 : 0 < ln) (h2 : ln ≤ row.length) (h3 : ln ≤ 1000) :
    order_left_least_l s.Ins s.Mids s.Outs s.All ln row 0 (s.tell false (nth row 0)) 0 = some (atMin (s.tell false) (row.take ln)) := by
  have e : nth (row.take ln) 0 = nth row 0 := nth_take h1
  have hm : (row.take ln).length = ln := by rw [List.length_take]; omega
  unfold order_left_least_l atMin
  rw [hm, ← e]
  refine loop_run (round := fun σ : Nat × Int × Nat => order_left_least_l_rd s.Ins s.Mids s.Outs s.All ln row σ.1 σ.2.1 σ.2.2) (fun k => ((amin (s.tell false) (row.take ln) k).1, (amin (s.tell false) (row.take ln) k).2, k)) ln (fun k hk => least_rd hl h2 h3 hk) ?_ (by simp only [FU]; omega)
  simp only [order_left_least_l_rd, Int.lt_irrefl, decide_false, cond_false]
theorem least_eq {s : Shape} (hl : s.All.length ≤ 1000) {ln : Nat} {row : List Int} (h1 : 0 < ln) (h2 : ln ≤ row.length) (h3 : ln ≤ 1000) :
    order_left_least s.Ins s.Mids s.Outs s.All ln row = some (nth (row.take ln) (atMin (s.tell false) (row.take ln)), (s.next (nth (row.take ln) (atMin (s.tell false) (row.take ln)))).1, ln - 1, cutL row ln (atMin (s.tell false) (row.take ln)) (atMin (s.tell false) (row.take ln) + 1)) := by
  have hm : (row.take ln).length = ln := by rw [List.length_take]; omega
  have hat := atMin_lt (f := s.tell false) (m := row.take ln) (by omega)
  have e := least_l hl h1 h2 h3
  rw [hm] at hat
  generalize atMin (s.tell false) (row.take ln) = at' at *
  have hn : shape_Next (Shape.mk s.Ins s.Mids s.Outs s.All) (nth row at') = some (s.next (nth row at')) := (shape_Next_eq (s := s) (by omega) _).trans (ref22_Next_eq (s := s) (by omega) _)
  have e2 : nth (row.take ln) at' = nth row at' := nth_take hat
  have hd : slices_Delete_int_int row ln (at' : Int) ((at' : Int) + 1) = some (ln - 1, cutL row ln at' (at' + 1)) := by
    have c : (decide (0 ≤ (at' : Int)) && (decide ((at' : Int) < (at' : Int) + 1) && (decide ((at' : Int) + 1 ≤ (ln : Int)) && decide (ln ≤ row.length)))) = true := by
      simp only [Bool.and_eq_true, decide_eq_true_eq]; omega
    have t1 : ((at' : Int)).toNat = at' := by omega
    have t2 : ((at' : Int) + 1).toNat = at' + 1 := by omega
    simp only [slices_Delete_int_int, c, cond_true, t1, t2]
    rw [show at' + 1 - at' = 1 by omega]
  simp (disch := omega) only [order_left_least, cost_e hl, e, hd, hn, e2, Bool.cond_decide, if_t, Option.bind_some, inK_i64, cond_true]
theorem greedy_rd {s : Shape} (hl : s.All.length ≤ 1000) {ln : Nat} {row out : List Int} (h1 : 0 < ln) (h2 : ln ≤ row.length) (h3 : ln ≤ 1000) (ho : out.length ≤ 1000) :
    order_greedy_l_2_rd out s.Ins s.Mids s.Outs s.All ln row = some (.inl (out ++ [nth (row.take ln) (atMin (s.tell false) (row.take ln))], (s.next (nth (row.take ln) (atMin (s.tell false) (row.take ln)))).1.Ins, (s.next (nth (row.take ln) (atMin (s.tell false) (row.take ln)))).1.Mids, (s.next (nth (row.take ln) (atMin (s.tell false) (row.take ln)))).1.Outs, (s.next (nth (row.take ln) (atMin (s.tell false) (row.take ln)))).1.All, ln - 1, cutL row ln (atMin (s.tell false) (row.take ln)) (atMin (s.tell false) (row.take ln) + 1))) := by
  simp (disch := omega) only [order_greedy_l_2_rd, least_eq hl h1 h2 h3, Bool.cond_decide, if_t, Option.bind_some]
theorem greedy_loop : ∀ (k fuel : Nat) (s : Shape) (ln : Nat) (row out : List Int), ln = k → k < fuel → s.right = true → (∀ v ∈ row.take ln, s.isMid v = true) → s.All.length ≤ 1000 → s.n * s.n ≤ 1000 → ln ≤ row.length → ln + out.length ≤ 1000 →
    loopN (fun (σ : List Int × Int × Int × Int × List Pair × Nat × List Int) => order_greedy_l_2_rd σ.1 σ.2.1 σ.2.2.1 σ.2.2.2.1 σ.2.2.2.2.1 σ.2.2.2.2.2.1 σ.2.2.2.2.2.2) fuel (out, s.Ins, s.Mids, s.Outs, s.All, ln, row) = some (out ++ greedyP false k s (row.take ln))
  | _, 0, _, _, _, _, _, h, _, _, _, _, _, _ => by omega
  | 0, fuel + 1, s, ln, row, out, e, _, _, _, _, _, _, _ => by
    subst e
    have : order_greedy_l_2_rd out s.Ins s.Mids s.Outs s.All 0 row = some (.inr out) := by
      rfl
    simp only [loopN, this, Option.bind_some, caseS_inr, greedyP, List.append_nil]
  | k + 1, fuel + 1, s, ln, row, out, e, hf, hr, hm, hl, hn, h2, h3 => by
    have hlen : (row.take ln).length = ln := by rw [List.length_take]; omega
    have hat := atMin_lt (f := s.tell false) (m := row.take ln) (by omega)
    have hmid := hm _ (nth_mem hat)
    have hrd := greedy_rd (s := s) hl (ln := ln) (row := row) (out := out) (by omega) h2 (by omega) (by omega)
    rw [hlen] at hat
    have hct := cutL_take row ln (atMin (s.tell false) (row.take ln)) hat h2
    have hcl := cutL_length row ln (atMin (s.tell false) (row.take ln)) (atMin (s.tell false) (row.take ln) + 1) (by omega) (by omega) h2
    simp only [greedyP]
    generalize atMin (s.tell false) (row.take ln) = at' at *
    generalize nth (row.take ln) at' = v at *
    obtain ⟨n1, n2, n3, n4, n5⟩ := next_n hr hmid
    have ih := greedy_loop k fuel (s.next v).1 (ln - 1) (cutL row ln at' (at' + 1)) (out ++ [v]) (by omega) (by omega) (next_right hr hmid) (fun u hu => by
      rw [hct] at hu
      have := hm u (List.mem_of_mem_eraseIdx hu)
      simpa only [Shape.isMid, n2, n3] using this) (by omega) (by rw [n1]; exact hn) (by omega) (by rw [List.length_append, List.length_singleton]; omega)
    rw [hct] at ih
    simp only [loopN, hrd, Option.bind_some, caseS_inl, ih, List.append_assoc, List.singleton_append]

theorem fill_e_2 {s : Shape} (hl : s.All.length ≤ 1000) (ln : Nat) (row : List Int) (v : Int) : order_left_fill s.Ins s.Mids s.Outs s.All ln row v = some (s.tell true v) := by
  have h : shape_Fill (Shape.mk s.Ins s.Mids s.Outs s.All) v = some (s.fill v) := shape_Fill_eq (s := s) (by omega) v
  simp only [order_left_fill, h, Option.bind_some, Shape.tell, if_true, Bool.false_eq_true, if_false]
theorem least_rd_2 {s : Shape} (hl : s.All.length ≤ 1000) {ln : Nat} {row : List Int} (h2 : ln ≤ row.length) (h3 : ln ≤ 1000) {k : Nat} (hk : k < ln) :
    order_left_least_l_2_rd s.Ins s.Mids s.Outs s.All ln row (amin (s.tell true) (row.take ln) k).1 (amin (s.tell true) (row.take ln) k).2 k = some (.inl ((amin (s.tell true) (row.take ln) (k + 1)).1, (amin (s.tell true) (row.take ln) (k + 1)).2, k + 1)) := by
  have e : nth (row.take ln) k = nth row k := nth_take hk
  by_cases hx : s.tell true (nth row k) < (amin (s.tell true) (row.take ln) k).2
  · simp (disch := omega) only [order_left_least_l_2_rd, fill_e_2 hl, Bool.cond_decide, if_t, Option.bind_some, inK_i64, cond_true, amin, e, if_pos hx]
  · simp (disch := omega) only [order_left_least_l_2_rd, fill_e_2 hl, Bool.cond_decide, if_t, Option.bind_some, inK_i64, cond_true, amin, e, if_neg hx]
theorem least_l_2 {s : Shape} (hl : s.All.length ≤ 1000) {ln : Nat} {row : List Int} (h1 : 0 < ln) (h2 : ln ≤ row.length) (h3 : ln ≤ 1000) :
    order_left_least_l_2 s.Ins s.Mids s.Outs s.All ln row 0 (s.tell true (nth row 0)) 0 = some (atMin (s.tell true) (row.take ln)) := by
  have e : nth (row.take ln) 0 = nth row 0 := nth_take h1
  have hm : (row.take ln).length = ln := by rw [List.length_take]; omega
  unfold order_left_least_l_2 atMin
  rw [hm, ← e]
  refine loop_run (round := fun σ : Nat × Int × Nat => order_left_least_l_2_rd s.Ins s.Mids s.Outs s.All ln row σ.1 σ.2.1 σ.2.2) (fun k => ((amin (s.tell true) (row.take ln) k).1, (amin (s.tell true) (row.take ln) k).2, k)) ln (fun k hk => least_rd_2 hl h2 h3 hk) ?_ (by simp only [FU]; omega)
  simp only [order_left_least_l_2_rd, Int.lt_irrefl, decide_false, cond_false]
theorem least_eq_2 {s : Shape} (hl : s.All.length ≤ 1000) {ln : Nat} {row : List Int} (h1 : 0 < ln) (h2 : ln ≤ row.length) (h3 : ln ≤ 1000) :
    order_left_least_2 s.Ins s.Mids s.Outs s.All ln row = some (nth (row.take ln) (atMin (s.tell true) (row.take ln)), (s.next (nth (row.take ln) (atMin (s.tell true) (row.take ln)))).1, ln - 1, cutL row ln (atMin (s.tell true) (row.take ln)) (atMin (s.tell true) (row.take ln) + 1)) := by
  have hm : (row.take ln).length = ln := by rw [List.length_take]; omega
  have hat := atMin_lt (f := s.tell true) (m := row.take ln) (by omega)
  have e := least_l_2 hl h1 h2 h3
  rw [hm] at hat
  generalize atMin (s.tell true) (row.take ln) = at' at *
  have hn : shape_Next (Shape.mk s.Ins s.Mids s.Outs s.All) (nth row at') = some (s.next (nth row at')) := (shape_Next_eq (s := s) (by omega) _).trans (ref22_Next_eq (s := s) (by omega) _)
  have e2 : nth (row.take ln) at' = nth row at' := nth_take hat
  have hd : slices_Delete_int_int row ln (at' : Int) ((at' : Int) + 1) = some (ln - 1, cutL row ln at' (at' + 1)) := by
    have c : (decide (0 ≤ (at' : Int)) && (decide ((at' : Int) < (at' : Int) + 1) && (decide ((at' : Int) + 1 ≤ (ln : Int)) && decide (ln ≤ row.length)))) = true := by
      simp only [Bool.and_eq_true, decide_eq_true_eq]; omega
    have t1 : ((at' : Int)).toNat = at' := by omega
    have t2 : ((at' : Int) + 1).toNat = at' + 1 := by omega
    simp only [slices_Delete_int_int, c, cond_true, t1, t2]
    rw [show at' + 1 - at' = 1 by omega]
  simp (disch := omega) only [order_left_least_2, fill_e_2 hl, e, hd, hn, e2, Bool.cond_decide, if_t, Option.bind_some, inK_i64, cond_true]
theorem greedy_rd_2 {s : Shape} (hl : s.All.length ≤ 1000) {ln : Nat} {row out : List Int} (h1 : 0 < ln) (h2 : ln ≤ row.length) (h3 : ln ≤ 1000) (ho : out.length ≤ 1000) :
    order_greedy_l_4_rd out s.Ins s.Mids s.Outs s.All ln row = some (.inl (out ++ [nth (row.take ln) (atMin (s.tell true) (row.take ln))], (s.next (nth (row.take ln) (atMin (s.tell true) (row.take ln)))).1.Ins, (s.next (nth (row.take ln) (atMin (s.tell true) (row.take ln)))).1.Mids, (s.next (nth (row.take ln) (atMin (s.tell true) (row.take ln)))).1.Outs, (s.next (nth (row.take ln) (atMin (s.tell true) (row.take ln)))).1.All, ln - 1, cutL row ln (atMin (s.tell true) (row.take ln)) (atMin (s.tell true) (row.take ln) + 1))) := by
  simp (disch := omega) only [order_greedy_l_4_rd, least_eq_2 hl h1 h2 h3, Bool.cond_decide, if_t, Option.bind_some]
theorem greedy_loop_2 : ∀ (k fuel : Nat) (s : Shape) (ln : Nat) (row out : List Int), ln = k → k < fuel → s.right = true → (∀ v ∈ row.take ln, s.isMid v = true) → s.All.length ≤ 1000 → s.n * s.n ≤ 1000 → ln ≤ row.length → ln + out.length ≤ 1000 →
    loopN (fun (σ : List Int × Int × Int × Int × List Pair × Nat × List Int) => order_greedy_l_4_rd σ.1 σ.2.1 σ.2.2.1 σ.2.2.2.1 σ.2.2.2.2.1 σ.2.2.2.2.2.1 σ.2.2.2.2.2.2) fuel (out, s.Ins, s.Mids, s.Outs, s.All, ln, row) = some (out ++ greedyP true k s (row.take ln))
  | _, 0, _, _, _, _, _, h, _, _, _, _, _, _ => by omega
  | 0, fuel + 1, s, ln, row, out, e, _, _, _, _, _, _, _ => by
    subst e
    have : order_greedy_l_4_rd out s.Ins s.Mids s.Outs s.All 0 row = some (.inr out) := by
      rfl
    simp only [loopN, this, Option.bind_some, caseS_inr, greedyP, List.append_nil]
  | k + 1, fuel + 1, s, ln, row, out, e, hf, hr, hm, hl, hn, h2, h3 => by
    have hlen : (row.take ln).length = ln := by rw [List.length_take]; omega
    have hat := atMin_lt (f := s.tell true) (m := row.take ln) (by omega)
    have hmid := hm _ (nth_mem hat)
    have hrd := greedy_rd_2 (s := s) hl (ln := ln) (row := row) (out := out) (by omega) h2 (by omega) (by omega)
    rw [hlen] at hat
    have hct := cutL_take row ln (atMin (s.tell true) (row.take ln)) hat h2
    have hcl := cutL_length row ln (atMin (s.tell true) (row.take ln)) (atMin (s.tell true) (row.take ln) + 1) (by omega) (by omega) h2
    simp only [greedyP]
    generalize atMin (s.tell true) (row.take ln) = at' at *
    generalize nth (row.take ln) at' = v at *
    obtain ⟨n1, n2, n3, n4, n5⟩ := next_n hr hmid
    have ih := greedy_loop_2 k fuel (s.next v).1 (ln - 1) (cutL row ln at' (at' + 1)) (out ++ [v]) (by omega) (by omega) (next_right hr hmid) (fun u hu => by
      rw [hct] at hu
      have := hm u (List.mem_of_mem_eraseIdx hu)
      simpa only [Shape.isMid, n2, n3] using this) (by omega) (by rw [n1]; exact hn) (by omega) (by rw [List.length_append, List.length_singleton]; omega)
    rw [hct] at ih
    simp only [loopN, hrd, Option.bind_some, caseS_inl, ih, List.append_assoc, List.singleton_append]
end Go.Ab.M
