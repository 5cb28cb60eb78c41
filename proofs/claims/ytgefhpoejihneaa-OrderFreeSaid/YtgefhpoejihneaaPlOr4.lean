/-
  PLAIN LAW: ORDERS (rising, falling, by a rule; the law).
-/
import Derived.Test.YtgefhpoejihneaaPlOr3
import Derived.Test.YtgefhpoejihneaaW23
namespace Go.Ab.M
set_option linter.unusedVariables false
set_option linter.unusedSimpArgs false

theorem rowOf_succ (f : Int) (m : Nat) : rowOf f (m + 1) = rowOf f m ++ [f + (m : Int)] := by simp [rowOf, List.range_succ]
theorem all_l {s : Shape} (hs : s.sized = true) : order_all_l s [] 0 = some (rowOf s.Ins s.Mids.toNat) ∧ order_all_l_2 s [] 0 = some (rowOf s.Ins s.Mids.toNat) := by
  have hz := sized_iff.1 hs
  have e : ¬ (((s.Mids.toNat : Nat) : Int) < s.Mids) := by omega
  constructor
  · unfold order_all_l
    refine loop_run (round := fun σ : List Int × Nat => order_all_l_rd s σ.1 σ.2) (fun k => (rowOf s.Ins k, k)) s.Mids.toNat (fun i hi => ?_) ?_ (by simp only [FU]; omega)
    · have hr := rowOf_len s.Ins i
      simp (disch := omega) only [order_all_l_rd, Bool.cond_decide, if_t, inK_i64, cond_true, rowOf_succ]
    · simp only [order_all_l_rd, Bool.cond_decide, if_neg e]
  · unfold order_all_l_2
    refine loop_run (round := fun σ : List Int × Nat => order_all_l_2_rd s σ.1 σ.2) (fun k => (rowOf s.Ins k, k)) s.Mids.toNat (fun i hi => ?_) ?_ (by simp only [FU]; omega)
    · have hr := rowOf_len s.Ins i
      simp (disch := omega) only [order_all_l_2_rd, Bool.cond_decide, if_t, inK_i64, cond_true, rowOf_succ]
    · simp only [order_all_l_2_rd, Bool.cond_decide, if_neg e]
/-- all mids, rising -/
def Shape.mids (s : Shape) : List Int := rowOf s.Ins s.Mids.toNat
theorem right_sz {s : Shape} (h : s.right = true) : s.sized = true := by simp only [Shape.right, Bool.and_eq_true] at h; exact h.1
theorem mids_len {s : Shape} (h : s.right = true) : s.mids.length ≤ 400 ∧ (s.mids.length : Int) = s.Mids := by
  have := right_sized h
  simp only [Shape.mids, rowOf_len]; omega
theorem mids_mid {s : Shape} (h : s.right = true) (u : Int) : u ∈ s.mids ↔ s.isMid u = true := by
  have := right_sized h
  simp only [Shape.mids, rowOf_mem, Shape.isMid, Bool.and_eq_true, decide_eq_true_eq]; omega
theorem Forward_eq {s : Shape} (hl : s.All.length ≤ 2000000) : order_Forward s = some (if s.right = true then s.mids else []) := by
  cases hr : s.right with
  | false => simp [order_Forward, shape_Right_eq hl, hr]
  | true => simp [order_Forward, shape_Right_eq hl, hr, order_all, (all_l (right_sz hr)).1, Shape.mids]

theorem rev_loop {o : List Int} (hl : o.length ≤ 1000000) : ∃ r, slices_Reverse_int_int_l_2 0 ((o.length : Int) - 1) o = some r ∧ r = o.reverse := by
  unfold slices_Reverse_int_int_l_2
  refine loop_inv (round := fun σ : Nat × Int × List Int => slices_Reverse_int_int_l_2_rd σ.1 σ.2.1 σ.2.2) (fun k σ => σ.1 = k ∧ σ.2.1 = (o.length : Int) - 1 - (k : Int) ∧ σ.2.2.length = o.length ∧ ∀ x, x < o.length → nth σ.2.2 x = if x < k ∨ o.length - k ≤ x then nth o (o.length - 1 - x) else nth o x) (o.length / 2) (0, (o.length : Int) - 1, o) ⟨rfl, by simp, rfl, fun x hx => by rw [if_neg (by omega)]⟩ ?_ ?_ (by simp only [FU]; omega)
  · rintro k ⟨i, j, l⟩ hk ⟨h1, h2, h3, h4⟩
    simp only at h1 h2 h3 h4
    subst h1
    have ej : j.toNat = o.length - 1 - i := by omega
    have hset : (l.set i (nth l j.toNat)).length = l.length := List.length_set ..
    refine ⟨(i + 1, j - 1, (l.set i (nth l j.toNat)).set j.toNat (nth l i)), ?_, rfl, by simp only; omega, by simp [h3], fun x hx => ?_⟩
    · simp (disch := omega) only [slices_Reverse_int_int_l_2_rd, hset, Bool.cond_decide, if_t, inK_i64, cond_true]
    · simp only
      rw [nth_set (by omega), nth_set (by omega), h4 x hx, h4 i (by omega), h4 j.toNat (by omega), ej]
      by_cases e1 : x = o.length - 1 - i
      · rw [if_pos e1, if_neg (by omega), if_pos (by omega)]
        congr 1; omega
      · rw [if_neg e1]
        by_cases e2 : x = i
        · rw [if_pos e2, if_neg (by omega), if_pos (by omega)]
          congr 1; omega
        · rw [if_neg e2]
          by_cases e3 : x < i ∨ o.length - i ≤ x
          · rw [if_pos e3, if_pos (by omega)]
          · rw [if_neg e3, if_neg (by omega)]
  · rintro ⟨i, j, l⟩ ⟨h1, h2, h3, h4⟩
    simp only at h1 h2 h3 h4
    subst h1
    have e : ¬ (((o.length / 2 : Nat) : Int) < j) := by omega
    refine ⟨l, ?_, ?_⟩
    · simp only [slices_Reverse_int_int_l_2_rd, Bool.cond_decide, if_neg e]
    · refine list_eq (by simp [h3]) fun x hx => ?_
      rw [h4 x (by omega), nth_get (l := o.reverse) (by simp; omega), List.getElem_reverse]
      by_cases e3 : x < o.length / 2 ∨ o.length - o.length / 2 ≤ x
      · rw [if_pos e3, nth_get (by omega)]
      · rw [if_neg e3, nth_get (by omega)]
        congr 1; omega
theorem Reverse_l_e : slices_Reverse_int_int = some () := by
  have h : slices_Reverse_int_int_l_rd = some (.inr ()) := by decide
  have : slices_Reverse_int_int_l = some () := loop_run (round := fun _ : Unit => slices_Reverse_int_int_l_rd) (fun _ => ()) 0 (fun i hi => by omega) h (by decide)
  simp only [slices_Reverse_int_int, this]
  decide
theorem Reverse_eq {s : Shape} (hl : s.All.length ≤ 2000000) : order_Reverse s = some (if s.right = true then s.mids.reverse else []) := by
  cases hr : s.right with
  | false => simp [order_Reverse, order_Forward_2, shape_Right_eq hl, hr, Reverse_l_e]
  | true =>
    obtain ⟨r, h1, h2⟩ := rev_loop (o := s.mids) (by have := mids_len hr; omega)
    have hlen := mids_len hr
    have ha := (all_l (right_sz hr)).2
    have e : rowOf s.Ins s.Mids.toNat = s.mids := rfl
    rw [e] at ha
    subst h2
    cases hm : s.mids with
    | nil => rw [hm] at ha; simp [order_Reverse, order_Forward_2, order_all_2, shape_Right_eq hl, hr, ha, Reverse_l_e]
    | cons x xs =>
      rw [hm] at ha h1 hlen
      have e : slices_Reverse_int_int_2 (x :: xs) = some (x :: xs).reverse := by
        simp (disch := omega) only [slices_Reverse_int_int_2, inK_i64, cond_true, h1, Option.bind_some]
      simp only [order_Reverse, order_Forward_2, order_all_2, shape_Right_eq hl, hr, ha, Option.bind_some, Bool.not_true, cond_false, List.isEmpty_cons, caseS_inr, e, if_true]
theorem Line_l {s : Shape} (hs : s.sized = true) (b : Bool) : ref23_Line_l s b [] 0 = some (if b = true then (List.range s.Mids.toNat).map (fun i : Nat => s.Ins + s.Mids - 1 - (i : Int)) else s.mids) := by
  have hz := sized_iff.1 hs
  have e : ¬ (((s.Mids.toNat : Nat) : Int) < s.Mids) := by omega
  unfold ref23_Line_l
  cases b with
  | false =>
    refine loop_run (round := fun σ : List Int × Nat => ref23_Line_l_rd s false σ.1 σ.2) (fun k => (rowOf s.Ins k, k)) s.Mids.toNat (fun i hi => ?_) ?_ (by simp only [FU]; omega)
    · have hr := rowOf_len s.Ins i
      simp (disch := omega) only [ref23_Line_l_rd, Bool.cond_decide, if_t, inK_i64, cond_true, cond_false, rowOf_succ]
    · simp only [ref23_Line_l_rd, Bool.cond_decide, if_neg e]; rfl
  | true =>
    refine loop_run (round := fun σ : List Int × Nat => ref23_Line_l_rd s true σ.1 σ.2) (fun k => ((List.range k).map (fun i : Nat => s.Ins + s.Mids - 1 - (i : Int)), k)) s.Mids.toNat (fun i hi => ?_) ?_ (by simp only [FU]; omega)
    · have hr : ((List.range i).map (fun i : Nat => s.Ins + s.Mids - 1 - (i : Int))).length = i := by simp
      simp (disch := omega) only [ref23_Line_l_rd, Bool.cond_decide, if_t, inK_i64, cond_true, List.range_succ, List.map_append, List.map_cons, List.map_nil]
    · simp only [ref23_Line_l_rd, Bool.cond_decide, if_neg e]; rfl
theorem falling {s : Shape} (h : s.right = true) : (List.range s.Mids.toNat).map (fun i : Nat => s.Ins + s.Mids - 1 - (i : Int)) = s.mids.reverse := by
  have hz := right_sized h
  refine list_eq (by simp [Shape.mids, rowOf_len]) fun x hx => ?_
  have hx' : x < s.Mids.toNat := by simpa using hx
  rw [nth_get hx, nth_get (by simp [Shape.mids, rowOf_len]; omega), List.getElem_reverse]
  simp only [Shape.mids, rowOf, List.getElem_map, List.getElem_range, List.length_map, List.length_range]
  omega
theorem Line_eq {s : Shape} (hl : s.All.length ≤ 2000000) (b : Bool) : ref23_Line s b = some (if s.right = true then (if b = true then s.mids.reverse else s.mids) else []) := by
  cases hr : s.right with
  | false => simp [ref23_Line, ref22_Right_eq hl, hr]
  | true => simp only [ref23_Line, ref22_Right_eq hl, hr, Option.bind_some, Bool.not_true, cond_false, Line_l (right_sz hr), falling hr, if_true]

/-- the mids by the rule of the least -/
def Shape.greedy (s : Shape) (fill : Bool) : List Int := greedyP fill s.mids.length s s.mids
theorem mids_sorted (s : Shape) : s.mids.Pairwise (· < ·) := rowOf_lt _ _
theorem Greedy_eq {s : Shape} (hl : s.All.length ≤ 1000) (hn : s.n * s.n ≤ 1000) (b : Bool) : ref23_Greedy s b = some (if s.right = true then s.greedy b else []) := by
  have hl2 : s.All.length ≤ 2000000 := by omega
  cases hr : s.right with
  | false => simp [ref23_Greedy, ref22_Right_eq hl2, hr]
  | true =>
    have hz := right_sized hr
    have hm := mids_len hr
    have h := ref_loop s b s.mids.length FU s (List.replicate (s.Ins + s.Mids).toNat false) [] s.mids rfl (by simp only [FU]; omega) hr (mids_sorted s) (fun u => by
      rw [mids_mid hr]
      constructor
      · intro h
        refine ⟨h, ?_⟩
        simp only [isGone, nth, List.getD, List.getElem?_replicate]
        split <;> rfl
      · exact fun h => h.1) (by simp) hl hn (by simp only [List.length_nil]; omega)
    have h' : ref23_Greedy_l s b [] s.Ins s.Mids s.Outs s.All (List.replicate (s.Ins + s.Mids).toNat false) = some (s.greedy b) := h
    simp (disch := omega) only [ref23_Greedy, ref22_Right_eq hl2, hr, Option.bind_some, Bool.not_true, cond_false, inK_i64, cond_true, Bool.cond_decide, if_t, h', if_true]
theorem greedy_l_e (s : Shape) : order_greedy_l s = some () ∧ order_greedy_l_3 s = some () :=
  ⟨loop_run (round := fun _ : Unit => order_greedy_l_rd s) (fun _ => ()) 0 (fun i hi => by omega) rfl (by decide), loop_run (round := fun _ : Unit => order_greedy_l_3_rd s) (fun _ => ()) 0 (fun i hi => by omega) rfl (by decide)⟩
theorem Markowitz_eq {s : Shape} (hl : s.All.length ≤ 1000) (hn : s.n * s.n ≤ 1000) : order_Markowitz s = some (if s.right = true then s.greedy false else []) := by
  have hl2 : s.All.length ≤ 2000000 := by omega
  cases hr : s.right with
  | false => simp [order_Markowitz, order_greedy, shape_Right_eq hl2, hr]
  | true =>
    have hm := mids_len hr
    have ha := (all_l (right_sz hr)).2
    have e : rowOf s.Ins s.Mids.toNat = s.mids := rfl
    rw [e] at ha
    cases hmid : s.mids with
    | nil => rw [hmid] at ha; simp [order_Markowitz, order_greedy, order_all_2, shape_Right_eq hl2, hr, ha, (greedy_l_e s).1, Shape.greedy, hmid, greedyP]
    | cons x xs =>
      have h := greedy_loop s.mids.length FU s s.mids.length s.mids [] rfl (by simp only [FU]; omega) hr (fun v hv => (mids_mid hr v).1 (List.mem_of_mem_take hv)) hl hn (Nat.le_refl _) (by simp only [List.length_nil]; omega)
      rw [List.take_length] at h
      have h' : order_greedy_l_2 [] s.Ins s.Mids s.Outs s.All (x :: xs).length (x :: xs) = some (s.greedy false) := by rw [← hmid]; exact h
      rw [hmid] at ha
      simp only [order_Markowitz, order_greedy, order_all_2, shape_Right_eq hl2, hr, ha, Option.bind_some, Bool.not_true, cond_false, List.isEmpty_cons, caseS_inr, h', if_true]
theorem Fill_eq {s : Shape} (hl : s.All.length ≤ 1000) (hn : s.n * s.n ≤ 1000) : order_Fill s = some (if s.right = true then s.greedy true else []) := by
  have hl2 : s.All.length ≤ 2000000 := by omega
  cases hr : s.right with
  | false => simp [order_Fill, order_greedy_2, shape_Right_eq hl2, hr]
  | true =>
    have hm := mids_len hr
    have ha := (all_l (right_sz hr)).2
    have e : rowOf s.Ins s.Mids.toNat = s.mids := rfl
    rw [e] at ha
    cases hmid : s.mids with
    | nil => rw [hmid] at ha; simp [order_Fill, order_greedy_2, order_all_2, shape_Right_eq hl2, hr, ha, (greedy_l_e s).2, Shape.greedy, hmid, greedyP]
    | cons x xs =>
      have h := greedy_loop_2 s.mids.length FU s s.mids.length s.mids [] rfl (by simp only [FU]; omega) hr (fun v hv => (mids_mid hr v).1 (List.mem_of_mem_take hv)) hl hn (Nat.le_refl _) (by simp only [List.length_nil]; omega)
      rw [List.take_length] at h
      have h' : order_greedy_l_4 [] s.Ins s.Mids s.Outs s.All (x :: xs).length (x :: xs) = some (s.greedy true) := by rw [← hmid]; exact h
      rw [hmid] at ha
      simp only [order_Fill, order_greedy_2, order_all_2, shape_Right_eq hl2, hr, ha, Option.bind_some, Bool.not_true, cond_false, List.isEmpty_cons, caseS_inr, h', if_true]
/-- what both say by a rule -/
def Shape.by_ (s : Shape) (way : Int) : List Int × Int := if s.right = true then (if way = 1 then (s.mids, 0) else if way = 2 then (s.mids.reverse, 0) else if way = 3 then (s.greedy false, 0) else if way = 4 then (s.greedy true, 0) else ([], 1)) else ([], 1)
theorem By_eq {s : Shape} (hl : s.All.length ≤ 1000) (hn : s.n * s.n ≤ 1000) (way : Int) : order_By s way = some (s.by_ way) ∧ ref23_By s way = some (s.by_ way) := by
  have hl2 : s.All.length ≤ 2000000 := by omega
  unfold Shape.by_ order_By ref23_By
  simp only [shape_Right_eq hl2, ref22_Right_eq hl2, Option.bind_some, Forward_eq hl2, Reverse_eq hl2, Line_eq hl2, Markowitz_eq hl hn, Fill_eq hl hn, Greedy_eq hl hn]
  cases hr : s.right with
  | false => simp
  | true =>
    by_cases e1 : way = 1
    · simp [e1]
    · by_cases e2 : way = 2
      · simp [e2]
      · by_cases e3 : way = 3
        · simp [e3]
        · by_cases e4 : way = 4
          · simp [e4]
          · have h1 : (way == 1) = false := by simpa using e1
            have h2 : (way == 2) = false := by simpa using e2
            have h3 : (way == 3) = false := by simpa using e3
            have h4 : (way == 4) = false := by simpa using e4
            simp [e1, e2, e3, e4, h1, h2, h3, h4]
theorem Ints_same (a : List Int) (h : a.length ≤ 1000000) : ref01_Ints a a = some true := by
  have hl : ref01_Ints_l a a 0 = some (.inr ()) := by
    unfold ref01_Ints_l
    refine loop_run (round := fun σ : Nat => ref01_Ints_l_rd a a σ) (fun i => i) a.length (fun i hi => ?_) ?_ (by simp only [FU]; omega)
    · simp (disch := omega) only [ref01_Ints_l_rd, Bool.cond_decide, if_t, bne_self_eq_false, cond_false, inK_i64, cond_true]
    · simp only [ref01_Ints_l_rd, Int.lt_irrefl, decide_false, cond_false]
  simp only [ref01_Ints, hl, bne_self_eq_false, cond_false, Option.bind_some, caseS_inr]
theorem greedyP_len (b : Bool) : ∀ (k : Nat) (s : Shape) (m : List Int), (greedyP b k s m).length = k
  | 0, _, _ => rfl
  | k + 1, s, m => by simp only [greedyP, List.length_cons, greedyP_len b k]
theorem by_len {s : Shape} (way : Int) : (s.by_ way).1.length ≤ 400 := by
  unfold Shape.by_
  cases hr : s.right with
  | false => simp
  | true =>
    have := mids_len hr
    simp only [if_true]
    repeat' split
    · exact this.1
    · rw [List.length_reverse]; exact this.1
    · simp only [Shape.greedy, greedyP_len]; exact this.1
    · simp only [Shape.greedy, greedyP_len]; exact this.1
    · simp
theorem Few_n {s : Shape} (h : ref22_Few s = some true) : s.Ins ≤ 4 ∧ s.Outs ≤ 4 ∧ s.Mids ≤ 7 ∧ s.All.length ≤ 40 := by
  simp only [ref22_Few, Bool.cond_decide] at h
  repeat' split at h
  all_goals simp only [Option.some.injEq, Bool.false_eq_true, decide_eq_true_eq] at h
  omega
theorem few_sq {s : Shape} (h : s.Ins ≤ 4 ∧ s.Outs ≤ 4 ∧ s.Mids ≤ 7 ∧ s.All.length ≤ 40) : s.n * s.n ≤ 1000 := by
  have : s.n ≤ 15 := by simp only [Shape.n]; omega
  exact Nat.le_trans (Nat.mul_le_mul this this) (by decide)
theorem OrderTells_few {s : Shape} (h : ref22_Few s = some false) (way : Int) : law23_OrderTells s way = some true := by
  unfold law23_OrderTells
  rw [awake23, h]
  rfl
theorem OrderTells_many {s : Shape} (h : ref22_Few s = some true) (way : Int) : law23_OrderTells s way = some true := by
  have hf := Few_n h
  have hl : s.All.length ≤ 1000 := by omega
  have hl2 : s.All.length ≤ 2000000 := by omega
  have hn := few_sq hf
  obtain ⟨b1, b2⟩ := By_eq hl hn way
  have i1 := Ints_same _ (Nat.le_trans (by_len (s := s) way) (by decide))
  have j : ∀ w : Int, ref01_Ints (s.by_ w).1 (s.by_ w).1 = some true := fun w => Ints_same _ (Nat.le_trans (by_len (s := s) w) (by decide))
  have i2 : ref01_Ints (if s.right = true then s.mids else []) (if s.right = true then s.mids else []) = some true := by
    have := j 1
    unfold Shape.by_ at this
    cases hr : s.right with
    | false => rw [hr] at this; exact this
    | true => rw [hr] at this; exact this
  have i3 : ref01_Ints (if s.right = true then s.mids.reverse else []) (if s.right = true then s.mids.reverse else []) = some true := by
    have := j 2
    unfold Shape.by_ at this
    cases hr : s.right with
    | false => rw [hr] at this; exact this
    | true => rw [hr] at this; exact this
  have i4 : ref01_Ints (if s.right = true then s.greedy false else []) (if s.right = true then s.greedy false else []) = some true := by
    have := j 3
    unfold Shape.by_ at this
    cases hr : s.right with
    | false => rw [hr] at this; exact this
    | true => rw [hr] at this; exact this
  have i5 : ref01_Ints (if s.right = true then s.greedy true else []) (if s.right = true then s.greedy true else []) = some true := by
    have := j 4
    unfold Shape.by_ at this
    cases hr : s.right with
    | false => rw [hr] at this; exact this
    | true => rw [hr] at this; exact this
  unfold law23_OrderTells
  rw [awake23, h]
  simp only [Option.bind_some, Bool.not_true, cond_false, b1, b2, Forward_eq hl2, Line_eq hl2, Bool.false_eq_true, if_false, if_true, i2, cond_true, Reverse_eq hl2, i3, Markowitz_eq hl hn, Greedy_eq hl hn, i4, Fill_eq hl hn, i5, BEq.rfl, i1]
theorem OrderTells_true (s : Shape) (way : Int) : law23_OrderTells s way = some true := by
  obtain ⟨b, h1, h2⟩ := ref22_Few_eq s
  cases b with
  | false => exact OrderTells_few h1 way
  | true => exact OrderTells_many h1 way
end Go.Ab.M
