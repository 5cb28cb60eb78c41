/-
  PLAIN LAW: SHAPES (all mids gone in an order; the law).
-/
import Derived.Test.YtgefhpoejihneaaPlSh5
namespace Go.Ab.M
set_option linter.unusedVariables false
set_option linter.unusedSimpArgs false

theorem next_cost {s : Shape} (hl : s.All.length ≤ 2000000) (v : Int) : 0 ≤ (s.next v).2.1 ∧ (s.next v).2.1 ≤ 4000000000000 := by
  unfold Shape.next
  cases hr : s.right with
  | false => simp
  | true =>
    cases hm : s.isMid v with
    | false => simp
    | true =>
      simp only [if_true]
      unfold Shape.cost
      rw [if_pos ⟨hr, hm⟩]
      have hi := insOf_len s.All v
      have ho := outsOf_len s.All v
      have h : (insOf s.All v).length * (outsOf s.All v).length ≤ 2000000 * 2000000 := Nat.mul_le_mul (by omega) (by omega)
      rw [← Int.natCast_mul]
      omega
/-- what is left, and what it cost, step by step -/
def stepsOf (s : Shape) (o : List Int) : Nat → Int × Shape
  | 0 => (0, s)
  | i + 1 => ((stepsOf s o i).1 + ((stepsOf s o i).2.next (nth o i)).2.1, ((stepsOf s o i).2.next (nth o i)).1)
theorem steps_le {s : Shape} (hl : s.All.length ≤ 2000000) (o : List Int) : ∀ i : Nat, (stepsOf s o i).2.All.length ≤ 2000000 ∧ 0 ≤ (stepsOf s o i).1 ∧ (stepsOf s o i).1 ≤ (i : Int) * 4000000000000
  | 0 => ⟨hl, Int.le_refl _, by simp [stepsOf]⟩
  | i + 1 => by
    obtain ⟨h1, h2, h3⟩ := steps_le hl o i
    have h4 := next_cost h1 (nth o i)
    refine ⟨next_len h1 _, ?_, ?_⟩
    · simp only [stepsOf]; omega
    · simp only [stepsOf]; omega
theorem All_rd {o : List Int} {sum : Int} {i : Nat} {c : Shape} (hl : c.All.length ≤ 2000000) (hi : i < o.length) (ho : o.length ≤ 12) (h1 : 0 ≤ sum) (h2 : sum ≤ 50000000000000) :
    shape_All_l_rd o sum i c.Ins c.Mids c.Outs c.All = some (.inl (sum + (c.next (nth o i)).2.1, i + 1, (c.next (nth o i)).1.Ins, (c.next (nth o i)).1.Mids, (c.next (nth o i)).1.Outs, (c.next (nth o i)).1.All)) := by
  have e : shape_Next (Shape.mk c.Ins c.Mids c.Outs c.All) (nth o i) = some (c.next (nth o i)) := (shape_Next_eq hl _).trans (ref22_Next_eq hl _)
  have hc := next_cost hl (nth o i)
  simp (disch := omega) only [shape_All_l_rd, e, Option.bind_some, Bool.cond_decide, if_t, inK_i64, cond_true]
theorem All22_rd {o : List Int} {sum : Int} {i : Nat} {c : Shape} (hl : c.All.length ≤ 2000000) (hi : i < o.length) (ho : o.length ≤ 12) (h1 : 0 ≤ sum) (h2 : sum ≤ 50000000000000) :
    ref22_All_l_rd o sum i c.Ins c.Mids c.Outs c.All = some (.inl (sum + (c.next (nth o i)).2.1, i + 1, (c.next (nth o i)).1.Ins, (c.next (nth o i)).1.Mids, (c.next (nth o i)).1.Outs, (c.next (nth o i)).1.All)) := by
  have e : ref22_Next (Shape.mk c.Ins c.Mids c.Outs c.All) (nth o i) = some (c.next (nth o i)) := ref22_Next_eq hl _
  have hc := next_cost hl (nth o i)
  simp (disch := omega) only [ref22_All_l_rd, e, Option.bind_some, Bool.cond_decide, if_t, inK_i64, cond_true]
theorem All_l {s : Shape} (hl : s.All.length ≤ 2000000) {o : List Int} (ho : o.length ≤ 12) : shape_All_l o 0 0 s.Ins s.Mids s.Outs s.All = some (stepsOf s o o.length).1 := by
  unfold shape_All_l
  refine loop_run (round := fun σ : Int × Nat × Int × Int × Int × List Pair => shape_All_l_rd o σ.1 σ.2.1 σ.2.2.1 σ.2.2.2.1 σ.2.2.2.2.1 σ.2.2.2.2.2) (fun i => ((stepsOf s o i).1, i, (stepsOf s o i).2.Ins, (stepsOf s o i).2.Mids, (stepsOf s o i).2.Outs, (stepsOf s o i).2.All)) o.length (fun i hi => ?_) ?_ (by simp only [FU]; omega)
  · obtain ⟨h1, h2, h3⟩ := steps_le hl o i
    exact All_rd h1 hi ho h2 (by omega)
  · simp only [shape_All_l_rd, Int.lt_irrefl, decide_false, cond_false]
theorem All22_l {s : Shape} (hl : s.All.length ≤ 2000000) {o : List Int} (ho : o.length ≤ 12) : ref22_All_l o 0 0 s.Ins s.Mids s.Outs s.All = some (stepsOf s o o.length).1 := by
  unfold ref22_All_l
  refine loop_run (round := fun σ : Int × Nat × Int × Int × Int × List Pair => ref22_All_l_rd o σ.1 σ.2.1 σ.2.2.1 σ.2.2.2.1 σ.2.2.2.2.1 σ.2.2.2.2.2) (fun i => ((stepsOf s o i).1, i, (stepsOf s o i).2.Ins, (stepsOf s o i).2.Mids, (stepsOf s o i).2.Outs, (stepsOf s o i).2.All)) o.length (fun i hi => ?_) ?_ (by simp only [FU]; omega)
  · obtain ⟨h1, h2, h3⟩ := steps_le hl o i
    exact All22_rd h1 hi ho h2 (by omega)
  · simp only [ref22_All_l_rd, Int.lt_irrefl, decide_false, cond_false]
/-- what both say of an order -/
def Shape.all (s : Shape) (o : List Int) : Int × Int := if s.right = true then (if eachB s.Ins s.Mids.toNat o = true then ((stepsOf s o o.length).1, 0) else (0, 9)) else (0, 1)
theorem shape_All_eq {s : Shape} (hl : s.All.length ≤ 2000000) {o : List Int} (ho : o.length ≤ 12) : shape_All s o = some (s.all o) := by
  unfold Shape.all
  cases hr : s.right with
  | false => simp [shape_All, shape_Right_eq hl, hr]
  | true =>
    have hs := right_sized hr
    have he := each_eq (s := s) ⟨by omega, by omega, by omega, by omega⟩ (o := o) (by omega)
    cases hb : eachB s.Ins s.Mids.toNat o with
    | false => rw [hb] at he; simp [shape_All, shape_Right_eq hl, hr, he]
    | true => rw [hb] at he; simp [shape_All, shape_Right_eq hl, hr, he, All_l hl ho]
theorem ref22_All_eq {s : Shape} (hl : s.All.length ≤ 2000000) {o : List Int} (ho : o.length ≤ 12) : ref22_All s o = some (s.all o) := by
  unfold Shape.all
  cases hr : s.right with
  | false => simp [ref22_All, ref22_Right_eq hl, hr]
  | true =>
    have hs := right_sized hr
    have he := Each_eq (o := o) (f := s.Ins) (m := s.Mids) (by omega) (by omega) (by omega) (by omega)
    cases hb : eachB s.Ins s.Mids.toNat o with
    | false => rw [hb] at he; simp [ref22_All, ref22_Right_eq hl, hr, he]
    | true => rw [hb] at he; simp [ref22_All, ref22_Right_eq hl, hr, he, All22_l hl ho]
theorem ShapeOrders_few {s : Shape} (h : ref22_Few s = some false) (o : List Int) : law22_ShapeOrders s o = some true := by
  unfold law22_ShapeOrders
  rw [awake22, h]
  rfl
theorem ShapeOrders_long {s : Shape} (h : ref22_Few s = some true) {o : List Int} (ho : 8 < o.length) : law22_ShapeOrders s o = some true := by
  have e : decide (((o.length : Nat) : Int) > 8) = true := by simp only [decide_eq_true_eq]; omega
  unfold law22_ShapeOrders
  rw [awake22, h, e]
  rfl
theorem ShapeOrders_many {s : Shape} (h : ref22_Few s = some true) {o : List Int} (hl : s.All.length ≤ 40) (ho : o.length ≤ 8) : law22_ShapeOrders s o = some true := by
  have e : decide (((o.length : Nat) : Int) > 8) = false := by simp only [decide_eq_false_iff_not]; omega
  have h1 := shape_All_eq (s := s) (by omega) (show o.length ≤ 12 by omega)
  have h2 := ref22_All_eq (s := s) (by omega) (show o.length ≤ 12 by omega)
  unfold law22_ShapeOrders
  rw [awake22, h, e]
  simp only [Option.bind_some, Bool.not_true, cond_false, h1, h2, cond_true, BEq.rfl]
theorem ShapeOrders_true (s : Shape) (o : List Int) : law22_ShapeOrders s o = some true := by
  obtain ⟨b, h1, h2⟩ := ref22_Few_eq s
  cases b with
  | false => exact ShapeOrders_few h1 o
  | true =>
    rcases Nat.lt_or_ge 8 o.length with h | h
    · exact ShapeOrders_long h1 h
    · exact ShapeOrders_many h1 (h2 rfl) h
end Go.Ab.M
