/-
  TEXTS PUT TOGETHER: PlG1, PlMade.
-/
import Derived.Test.YtpefcgiiigdcdaaGreatPD
import Derived.Test.YtpefcgiiigdcdaaGreatPB
import Derived.Test.YtpefcgiiigdcdaaGreatTD
section
/-
  PLAIN LAW: GRAPHS (right ones).
-/
namespace Go.Ab.M
set_option linter.unusedVariables false
set_option linter.unusedSimpArgs false

theorem Index_eq {s : List Int} (hl : s.length ≤ 1000000) (v : Int) : ∃ r, slices_Index_int_int s v = some r ∧ (r ≥ 0 ↔ v ∈ s) := by
  by_cases h : v ∈ s
  · obtain ⟨p, hp⟩ : ∃ p : Nat → Bool, p = fun i => !(v == nth s i) := ⟨_, rfl⟩
    have hne : ¬ (List.range s.length).all p = true := by
      intro hall
      obtain ⟨i, hi, e⟩ := List.getElem_of_mem h
      have := List.all_eq_true.1 hall i (by simpa using hi)
      rw [hp] at this
      simp only [nth_get hi, e, BEq.rfl, Bool.not_true] at this
      cases this
    obtain ⟨j, j1, j2, j3⟩ := all_find s.length hne
    have run : slices_Index_int_int_l s v 0 = some (.inl j) := by
      unfold slices_Index_int_int_l
      refine loop_run (round := fun σ : Nat => slices_Index_int_int_l_rd s v σ) (fun i => i) j (fun i hi => ?_) ?_ (by simp only [FU]; omega)
      · have := j3 i hi
        rw [hp] at this
        have e : (v == nth s i) = false := by simpa only [Bool.not_eq_true'] using this
        simp (disch := omega) only [slices_Index_int_int_l_rd, e, cond_false, Bool.cond_decide, if_t, inK_i64, cond_true]
      · rw [hp] at j2
        have e : (v == nth s j) = true := by simpa only [Bool.not_eq_false'] using j2
        simp (disch := omega) only [slices_Index_int_int_l_rd, e, Bool.cond_decide, if_t, cond_true]
    refine ⟨(j : Int), by simp only [slices_Index_int_int, run, Option.bind_some, caseS_inl], ?_⟩
    exact ⟨fun _ => h, fun _ => by omega⟩
  · have run : slices_Index_int_int_l s v 0 = some (.inr ()) := by
      unfold slices_Index_int_int_l
      refine loop_run (round := fun σ : Nat => slices_Index_int_int_l_rd s v σ) (fun i => i) s.length (fun i hi => ?_) ?_ (by simp only [FU]; omega)
      · have e : (v == nth s i) = false := by
          rw [beq_eq_false_iff_ne]
          intro e
          exact h (by rw [e]; exact nth_mem hi)
        simp (disch := omega) only [slices_Index_int_int_l_rd, e, cond_false, Bool.cond_decide, if_t, inK_i64, cond_true]
      · simp only [slices_Index_int_int_l_rd, Int.lt_irrefl, decide_false, cond_false]
    refine ⟨-1, by simp only [slices_Index_int_int, run, Option.bind_some, caseS_inr], ?_⟩
    exact ⟨fun x => by omega, fun x => absurd x h⟩
theorem Contains_eq {s : List Int} (hl : s.length ≤ 1000000) (v : Int) : slices_Contains_int_int s v = some (decide (v ∈ s)) := by
  obtain ⟨r, r1, r2⟩ := Index_eq hl v
  simp only [slices_Contains_int_int, r1, Option.bind_some]
  congr 1
  rw [Bool.eq_iff_iff, decide_eq_true_eq, decide_eq_true_eq]
  exact r2
theorem nth_map {α β : Type} [Inhabited α] [Inhabited β] {f : α → β} {l : List α} {i : Nat} (h : i < l.length) : nth (l.map f) i = f (nth l i) := by
  rw [nth_get (by simpa using h), nth_get h]; simp

def Edge.pair (w : Edge) : Pair := ⟨w.From, w.To⟩
abbrev Graph.shape (g : Graph) : Shape := ⟨g.Ins, g.Mids, g.Outs, g.Edges.map Edge.pair⟩
def Graph.goneFits (g : Graph) (i : Nat) : Bool := decide (g.Ins ≤ nth g.Gone i) && decide (nth g.Gone i < g.Ins + g.Mids) && (decide (i = 0) || decide (nth g.Gone (i - 1) < nth g.Gone i))
def Graph.fits (g : Graph) (i : Nat) : Bool := g.shape.fits i && isR (nth g.Edges i).W && !decide ((nth g.Edges i).From ∈ g.Gone) && !decide ((nth g.Edges i).To ∈ g.Gone)
def Graph.goneOk (g : Graph) : Bool := (List.range g.Gone.length).all g.goneFits
def Graph.right (g : Graph) : Bool := g.shape.sized && g.goneOk && (List.range g.Edges.length).all g.fits
/-- a graph's labels are words, not more than so many; and lists are not too long -/
structure Graph.Ok (n : Nat) (g : Graph) : Prop where
  w : ∀ i, i < g.Edges.length → okL n (nth g.Edges i).W
  e : g.Edges.length ≤ 100000
  g : g.Gone.length ≤ 100000

theorem graph_sizes_eq (g : Graph) : graph_sizes g = some g.shape.sized := by
  simp only [graph_sizes, Shape.sized, Graph.shape, Bool.cond_decide]
  repeat' split
  all_goals (refine congrArg some ?_; rw [Bool.eq_iff_iff]; simp only [Bool.and_eq_true, decide_eq_true_eq, Bool.false_eq_true, false_iff]; first | omega | (constructor <;> intro q <;> omega))
theorem graph_mid_eq {g : Graph} (h : g.shape.sized = true) (v : Int) : graph_mid g v = some (g.shape.isMid v) := by
  have hs := sized_iff.1 h
  simp only [Graph.shape] at hs
  simp (disch := omega) only [graph_mid, Bool.cond_decide, inK_i64, cond_true, Shape.isMid, Graph.shape, ge_iff_le]
  split
  · rename_i h1; simp [h1]
  · rename_i h1; simp [h1]
theorem graph_gone_rd {g : Graph} (h : g.shape.sized = true) {i : Nat} (hi : i < g.Gone.length) (hl : g.Gone.length ≤ 1000000) : graph_gone_l_rd g i = some (if g.goneFits i = true then .inl (i + 1) else .inr (.inl ())) := by
  have e1 : (((i : Nat) : Int) - 1).toNat = i - 1 := by omega
  have hm : g.shape.isMid (nth g.Gone i) = (decide (g.Ins ≤ nth g.Gone i) && decide (nth g.Gone i < g.Ins + g.Mids)) := rfl
  simp (disch := omega) only [graph_gone_l_rd, graph_mid_eq h, e1, Bool.cond_decide, if_t, inK_i64, cond_true, Option.bind_some, Graph.goneFits]
  rw [hm]
  by_cases q : g.Ins ≤ nth g.Gone i ∧ nth g.Gone i < g.Ins + g.Mids
  · have e : (decide (g.Ins ≤ nth g.Gone i) && decide (nth g.Gone i < g.Ins + g.Mids)) = true := by rw [Bool.and_eq_true, decide_eq_true_eq, decide_eq_true_eq]; exact q
    simp (disch := omega) only [e, Bool.not_true, cond_false, Bool.true_and, Bool.or_eq_true, decide_eq_true_eq, if_t]
    repeat' split
    all_goals first | rfl | omega
  · have e : (decide (g.Ins ≤ nth g.Gone i) && decide (nth g.Gone i < g.Ins + g.Mids)) = false := by
      rw [Bool.eq_false_iff]; simp only [ne_eq, Bool.and_eq_true, decide_eq_true_eq]; exact q
    simp only [e, Bool.not_false, cond_true, Bool.false_and, Bool.false_eq_true, if_false]
theorem graph_gone_eq {g : Graph} (h : g.shape.sized = true) (hl : g.Gone.length ≤ 1000000) : graph_gone g = some g.goneOk := by
  have e : graph_gone_l g 0 = some (if (List.range g.Gone.length).all g.goneFits = true then .inr () else .inl ()) := by
    unfold graph_gone_l
    exact loop_all (round := fun σ => graph_gone_l_rd g σ) g.goneFits g.Gone.length (.inr ()) (.inl ()) (fun i hi hp => by rw [graph_gone_rd h hi hl, if_pos hp]) (fun i hi hp => by rw [graph_gone_rd h hi hl, if_neg (by simp [hp])]) (by simp [graph_gone_l_rd]) (by simp only [FU]; omega)
  simp only [graph_gone, e, Option.bind_some, Graph.goneOk]
  split
  · rename_i h1; rw [h1]; rfl
  · rename_i h1; rw [Bool.not_eq_true] at h1; rw [h1]; rfl
theorem graph_order_eq (p q : Edge) : graph_order p q = some (if cmpI p.From q.From ≠ 0 then cmpI p.From q.From else cmpI p.To q.To) := by
  simp [graph_order, cmp_Compare_eq, cmp_Or_eq]
theorem edge_order_ge (p q : Edge) : ((if cmpI p.From q.From ≠ 0 then cmpI p.From q.From else cmpI p.To q.To) ≥ 0) ↔ ¬ (p.From < q.From ∨ (p.From = q.From ∧ p.To < q.To)) := order_ge ⟨p.From, p.To⟩ ⟨q.From, q.To⟩
/-- does the pair of an edge fit? -/
def Graph.pairFits (g : Graph) (i : Nat) : Prop := 0 ≤ (nth g.Edges i).From ∧ (nth g.Edges i).From < g.Ins + g.Mids ∧ g.Ins ≤ (nth g.Edges i).To ∧ (nth g.Edges i).To < g.Ins + g.Mids + g.Outs ∧ (nth g.Edges i).From < (nth g.Edges i).To ∧
    (i = 0 ∨ (nth g.Edges (i - 1)).From < (nth g.Edges i).From ∨ ((nth g.Edges (i - 1)).From = (nth g.Edges i).From ∧ (nth g.Edges (i - 1)).To < (nth g.Edges i).To))
instance (g : Graph) (i : Nat) : Decidable (g.pairFits i) := by unfold Graph.pairFits; infer_instance
theorem shape_fits {g : Graph} {i : Nat} (hi : i < g.Edges.length) : g.shape.fits i = true ↔ g.pairFits i := by
  have e1 : nth g.shape.All i = (nth g.Edges i).pair := nth_map hi
  have e2 : nth g.shape.All (i - 1) = (nth g.Edges (i - 1)).pair := nth_map (by omega)
  simp only [Shape.fits, e1, e2, Edge.pair, Graph.pairFits, Bool.and_eq_true, Bool.or_eq_true, decide_eq_true_eq, Graph.shape]
  constructor
  · rintro ⟨⟨⟨⟨⟨a, b⟩, c⟩, d⟩, e⟩, f⟩; exact ⟨a, b, c, d, e, by omega⟩
  · rintro ⟨a, b, c, d, e, f⟩; exact ⟨⟨⟨⟨⟨a, b⟩, c⟩, d⟩, e⟩, by omega⟩
theorem graph_Right_rd {g : Graph} {n : Nat} (hn : n ≤ 10000000) (hg : g.Ok n) (h : g.shape.sized = true) {i : Nat} (hi : i < g.Edges.length) : graph_Right_l_rd g i = some (if g.fits i = true then .inl (i + 1) else .inr (.inl ())) := by
  have hs := sized_iff.1 h
  simp only [Graph.shape] at hs
  have hl := hg.e
  have hR := ratio_Right_eq (x := (nth g.Edges i).W) (by obtain ⟨a, b, c, d⟩ := hg.w i hi; exact ⟨a, b, by omega, by omega⟩)
  have e1 : (((i : Nat) : Int) - 1).toNat = i - 1 := by omega
  have c1 := Contains_eq (s := g.Gone) (by have := hg.g; omega) (nth g.Edges i).From
  have c2 := Contains_eq (s := g.Gone) (by have := hg.g; omega) (nth g.Edges i).To
  have hf : g.fits i = (decide (g.pairFits i) && isR (nth g.Edges i).W && !decide ((nth g.Edges i).From ∈ g.Gone) && !decide ((nth g.Edges i).To ∈ g.Gone)) := by
    have : g.shape.fits i = decide (g.pairFits i) := by rw [Bool.eq_iff_iff, decide_eq_true_eq]; exact shape_fits hi
    simp only [Graph.fits, this]
  rw [hf]
  by_cases hp : g.pairFits i
  · obtain ⟨p1, p2, p3, p4, p5, p6⟩ := id hp
    have n1 : ¬ (nth g.Edges i).From < 0 := by omega
    have n2 : ¬ (nth g.Edges i).From ≥ g.Ins + g.Mids := by omega
    have n3 : ¬ (nth g.Edges i).To < g.Ins := by omega
    have n4 : ¬ (nth g.Edges i).To ≥ g.Ins + g.Mids + g.Outs := by omega
    have n5 : ¬ (nth g.Edges i).From ≥ (nth g.Edges i).To := by omega
    have hd : decide (g.pairFits i) = true := decide_eq_true hp
    rw [hd, Bool.true_and]
    by_cases hi0 : i = 0
    · have n6 : ¬ ((i : Nat) : Int) > 0 := by omega
      simp (disch := omega) only [graph_Right_l_rd, hR, c1, c2, Bool.cond_decide, if_t, if_neg n1, if_neg n2, if_neg n3, if_neg n4, if_neg n5, if_neg n6, inK_i64, cond_true, Option.bind_some]
      rcases Bool.eq_false_or_eq_true (isR (nth g.Edges i).W) with q | q
      · by_cases m1 : (nth g.Edges i).From ∈ g.Gone
        · simp only [q, m1, decide_true, decide_false, Bool.not_true, Bool.not_false, cond_true, cond_false, Bool.and_true, Bool.and_false, Bool.true_and, Bool.false_and, Bool.false_eq_true, if_true, if_false, not_false_eq_true]
        · by_cases m2 : (nth g.Edges i).To ∈ g.Gone
          · simp only [q, m1, m2, decide_true, decide_false, Bool.not_true, Bool.not_false, cond_true, cond_false, Bool.and_true, Bool.and_false, Bool.true_and, Bool.false_and, Bool.false_eq_true, if_true, if_false, not_false_eq_true]
          · simp only [q, m1, m2, decide_true, decide_false, Bool.not_true, Bool.not_false, cond_true, cond_false, Bool.and_true, Bool.and_false, Bool.true_and, Bool.false_and, Bool.false_eq_true, if_true, if_false, not_false_eq_true]
      · simp only [q, decide_true, decide_false, Bool.not_true, Bool.not_false, cond_true, cond_false, Bool.and_true, Bool.and_false, Bool.true_and, Bool.false_and, Bool.false_eq_true, if_true, if_false, not_false_eq_true]
    · have n6 : ((i : Nat) : Int) > 0 := by omega
      have n7 : ¬ ((if cmpI (nth g.Edges (i - 1)).From (nth g.Edges i).From ≠ 0 then cmpI (nth g.Edges (i - 1)).From (nth g.Edges i).From else cmpI (nth g.Edges (i - 1)).To (nth g.Edges i).To) ≥ 0) := by
        rw [edge_order_ge]; omega
      simp (disch := omega) only [graph_Right_l_rd, hR, c1, c2, e1, graph_order_eq, Bool.cond_decide, if_t, if_neg n1, if_neg n2, if_neg n3, if_neg n4, if_neg n5, if_pos n6, if_neg n7, inK_i64, cond_true, Option.bind_some]
      rcases Bool.eq_false_or_eq_true (isR (nth g.Edges i).W) with q | q
      · by_cases m1 : (nth g.Edges i).From ∈ g.Gone
        · simp only [q, m1, decide_true, decide_false, Bool.not_true, Bool.not_false, cond_true, cond_false, Bool.and_true, Bool.and_false, Bool.true_and, Bool.false_and, Bool.false_eq_true, if_true, if_false, not_false_eq_true]
        · by_cases m2 : (nth g.Edges i).To ∈ g.Gone
          · simp only [q, m1, m2, decide_true, decide_false, Bool.not_true, Bool.not_false, cond_true, cond_false, Bool.and_true, Bool.and_false, Bool.true_and, Bool.false_and, Bool.false_eq_true, if_true, if_false, not_false_eq_true]
          · simp only [q, m1, m2, decide_true, decide_false, Bool.not_true, Bool.not_false, cond_true, cond_false, Bool.and_true, Bool.and_false, Bool.true_and, Bool.false_and, Bool.false_eq_true, if_true, if_false, not_false_eq_true]
      · simp only [q, decide_true, decide_false, Bool.not_true, Bool.not_false, cond_true, cond_false, Bool.and_true, Bool.and_false, Bool.true_and, Bool.false_and, Bool.false_eq_true, if_true, if_false, not_false_eq_true]
  · have hd : decide (g.pairFits i) = false := decide_eq_false hp
    rw [hd, Bool.false_and, Bool.false_and, Bool.false_and, if_neg (by simp)]
    by_cases q1 : (nth g.Edges i).From < 0
    · simp (disch := omega) only [graph_Right_l_rd, Bool.cond_decide, if_t, if_pos q1]
    by_cases q2 : (nth g.Edges i).From ≥ g.Ins + g.Mids
    · simp (disch := omega) only [graph_Right_l_rd, Bool.cond_decide, if_t, if_neg q1, if_pos q2, inK_i64, cond_true]
    by_cases q3 : (nth g.Edges i).To < g.Ins
    · simp (disch := omega) only [graph_Right_l_rd, Bool.cond_decide, if_t, if_neg q1, if_neg q2, if_pos q3, inK_i64, cond_true]
    by_cases q4 : (nth g.Edges i).To ≥ g.Ins + g.Mids + g.Outs
    · simp (disch := omega) only [graph_Right_l_rd, Bool.cond_decide, if_t, if_neg q1, if_neg q2, if_neg q3, if_pos q4, inK_i64, cond_true]
    by_cases q5 : (nth g.Edges i).From ≥ (nth g.Edges i).To
    · simp (disch := omega) only [graph_Right_l_rd, Bool.cond_decide, if_t, if_neg q1, if_neg q2, if_neg q3, if_neg q4, if_pos q5, inK_i64, cond_true]
    have hi0 : i ≠ 0 := fun e => hp ⟨by omega, by omega, by omega, by omega, by omega, .inl e⟩
    have n6 : ((i : Nat) : Int) > 0 := by omega
    have n7 : ((if cmpI (nth g.Edges (i - 1)).From (nth g.Edges i).From ≠ 0 then cmpI (nth g.Edges (i - 1)).From (nth g.Edges i).From else cmpI (nth g.Edges (i - 1)).To (nth g.Edges i).To) ≥ 0) := by
      rw [edge_order_ge]
      intro hq
      exact hp ⟨by omega, by omega, by omega, by omega, by omega, .inr hq⟩
    rcases Bool.eq_false_or_eq_true (isR (nth g.Edges i).W) with q | q
    · simp (disch := omega) only [graph_Right_l_rd, hR, q, e1, graph_order_eq, Bool.cond_decide, if_t, if_neg q1, if_neg q2, if_neg q3, if_neg q4, if_neg q5, if_pos n6, if_pos n7, inK_i64, cond_true, Option.bind_some, Bool.not_true, cond_false]
    · simp (disch := omega) only [graph_Right_l_rd, hR, q, Bool.cond_decide, if_t, if_neg q1, if_neg q2, if_neg q3, if_neg q4, if_neg q5, inK_i64, cond_true, Option.bind_some, Bool.not_false]
theorem graph_Right_eq {g : Graph} {n : Nat} (hn : n ≤ 10000000) (hg : g.Ok n) : graph_Right g = some g.right := by
  by_cases h : g.shape.sized = true
  · have e : graph_Right_l g 0 = some (if (List.range g.Edges.length).all g.fits = true then .inr () else .inl ()) := by
      unfold graph_Right_l
      exact loop_all (round := fun σ => graph_Right_l_rd g σ) g.fits g.Edges.length (.inr ()) (.inl ()) (fun i hi hp => by rw [graph_Right_rd hn hg h hi, if_pos hp]) (fun i hi hp => by rw [graph_Right_rd hn hg h hi, if_neg (by simp [hp])]) (by simp [graph_Right_l_rd]) (by have := hg.e; simp only [FU]; omega)
    simp only [graph_Right, graph_sizes_eq, h, graph_gone_eq h (by have := hg.g; omega), Option.bind_some, Bool.not_true, cond_false, Graph.right, Bool.true_and, e]
    cases hq : g.goneOk with
    | false => rfl
    | true =>
      simp only [Bool.not_true, cond_false, Bool.true_and]
      split
      · rename_i h1; rw [h1]; rfl
      · rename_i h1; rw [Bool.not_eq_true] at h1; rw [h1]; rfl
  · rw [Bool.not_eq_true] at h
    simp only [graph_Right, graph_sizes_eq, h, Option.bind_some, Bool.not_false, cond_true, Graph.right, Bool.false_and]
theorem right_shape {g : Graph} (h : g.right = true) : g.shape.right = true := by
  simp only [Graph.right, Bool.and_eq_true, List.all_eq_true, List.mem_range] at h
  obtain ⟨⟨h1, h2⟩, h3⟩ := h
  simp only [Shape.right, Bool.and_eq_true, List.all_eq_true, List.mem_range]
  refine ⟨h1, fun i hi => ?_⟩
  have := h3 i (by simpa [Graph.shape] using hi)
  simp only [Graph.fits, Bool.and_eq_true] at this
  exact this.1.1.1
theorem shape_From_eq {g : Graph} {n : Nat} (hn : n ≤ 10000000) (hg : g.Ok n) : shape_From g = some (if g.right = true then g.shape else Shape.mk 0 0 0 []) := by
  have hl := hg.e
  have e : shape_From_l g 0 [] = some g.shape.All := by
    have := loop_run (round := fun σ : Nat × List Pair => shape_From_l_rd g σ.1 σ.2) (fun i => (i, (g.Edges.take i).map Edge.pair)) g.Edges.length (r := (g.Edges.take g.Edges.length).map Edge.pair) (fun i hi => ?_) ?_ (by simp only [FU]; omega)
    · rw [List.take_length] at this
      exact this
    · have e2 : ((g.Edges.take i).map Edge.pair).length = i := by rw [List.length_map, List.length_take]; omega
      simp (disch := omega) only [shape_From_l_rd, e2, Bool.cond_decide, if_t, inK_i64, cond_true]
      rw [take_nth hi, List.map_append]
      rfl
    · simp only [shape_From_l_rd, Int.lt_irrefl, decide_false, cond_false]
  simp only [shape_From, graph_Right_eq hn hg, Option.bind_some, e]
  split
  · rename_i h1; rw [h1]; rfl
  · rename_i h1; rw [Bool.not_eq_true] at h1; rw [h1]; rfl
end Go.Ab.M
end

section
/-
  PLAIN LAW: THE GRAPHS MADE OF SMALL NUMBERS ARE RIGHT.
-/
namespace Go.Ab.M
set_option linter.unusedVariables false
set_option linter.unusedSimpArgs false

def LinksOk (l : List Link) : Prop := ∀ i, i < l.length → 0 ≤ (nth l i).From ∧ (nth l i).From ≤ 255 ∧ 0 ≤ (nth l i).To ∧ (nth l i).To ≤ 255 ∧ -128 ≤ (nth l i).N ∧ (nth l i).N ≤ 127 ∧ 0 ≤ (nth l i).D_ ∧ (nth l i).D_ ≤ 255
theorem links_ok {l : List Link} (h : ∀ z, z ∈ l → inRange .u8 z.From ∧ inRange .u8 z.To ∧ inRange .i8 z.N ∧ inRange .u8 z.D_) : LinksOk l := fun i hi => by
  obtain ⟨⟨a1, a2⟩, ⟨b1, b2⟩, ⟨c1, c2⟩, ⟨d1, d2⟩⟩ := h _ (nth_mem hi)
  exact ⟨a1, a2, b1, b2, c1, c2, d1, d2⟩
def mkCond (I M O : Nat) (l : List Link) (v u i : Nat) : Bool := decide ((nth l i).From % ((I : Int) + (M : Int)) = (v : Int)) && decide ((I : Int) + (nth l i).To % ((M : Int) + (O : Int)) = (u : Int)) && decide (v < u)
def mkAt (I M O : Nat) (l : List Link) (v u : Nat) : Nat → Option Nat
  | 0 => none
  | k + 1 => if mkCond I M O l v u k = true then some k else mkAt I M O l v u k
def atI : Option Nat → Int
  | none => -1
  | some k => (k : Int)
def mkEdge (l : List Link) (v u i : Nat) : Edge := ⟨(v : Int), (u : Int), ofR (mkRat (nth l i).N (((nth l i).D_ % 3).toNat + 1))⟩
def mkOne (I M O : Nat) (l : List Link) (v b : Nat) : List Edge := match mkAt I M O l v (I + b) l.length with
  | none => []
  | some i => [mkEdge l v (I + b) i]
def mkRow (I M O : Nat) (l : List Link) (v : Nat) : Nat → List Edge
  | 0 => []
  | b + 1 => mkRow I M O l v b ++ mkOne I M O l v b
def mkAll (I M O : Nat) (l : List Link) : Nat → List Edge
  | 0 => []
  | v + 1 => mkAll I M O l v ++ mkRow I M O l v (M + O)
theorem mkAt_some {I M O : Nat} {l : List Link} {v u : Nat} : ∀ {k i : Nat}, mkAt I M O l v u k = some i → i < k ∧ mkCond I M O l v u i = true
  | 0, i, h => by cases h
  | k + 1, i, h => by
    unfold mkAt at h
    split at h
    · rename_i q
      cases h
      exact ⟨by omega, q⟩
    · have := mkAt_some h
      exact ⟨by omega, this.2⟩
theorem mkOne_mem {I M O : Nat} {l : List Link} {v b : Nat} {w : Edge} (h : w ∈ mkOne I M O l v b) : ∃ i, i < l.length ∧ v < I + b ∧ w = mkEdge l v (I + b) i := by
  unfold mkOne at h
  split at h
  · cases h
  · rename_i i q
    have := mkAt_some q
    simp only [List.mem_singleton] at h
    refine ⟨i, this.1, ?_, h⟩
    have q2 := this.2
    simp only [mkCond, Bool.and_eq_true, decide_eq_true_eq] at q2
    exact q2.2
theorem mkOne_len (I M O : Nat) (l : List Link) (v b : Nat) : (mkOne I M O l v b).length ≤ 1 := by
  unfold mkOne
  split <;> simp
theorem mkRow_len (I M O : Nat) (l : List Link) (v : Nat) : ∀ b, (mkRow I M O l v b).length ≤ b
  | 0 => by simp [mkRow]
  | b + 1 => by
    have h1 := mkRow_len I M O l v b
    have h2 := mkOne_len I M O l v b
    simp only [mkRow, List.length_append]
    omega
theorem mkAll_len (I M O : Nat) (l : List Link) : ∀ n, (mkAll I M O l n).length ≤ n * (M + O)
  | 0 => by simp [mkAll]
  | n + 1 => by
    have h1 := mkAll_len I M O l n
    have h2 := mkRow_len I M O l n (M + O)
    simp only [mkAll, List.length_append, Nat.succ_mul]
    omega
theorem mkRow_mem {I M O : Nat} {l : List Link} {v : Nat} {w : Edge} : ∀ {b : Nat}, w ∈ mkRow I M O l v b → ∃ c i, c < b ∧ i < l.length ∧ v < I + c ∧ w = mkEdge l v (I + c) i
  | 0, h => by cases h
  | b + 1, h => by
    rcases List.mem_append.1 h with q | q
    · obtain ⟨c, i, h1, h2⟩ := mkRow_mem q
      exact ⟨c, i, by omega, h2⟩
    · obtain ⟨i, h1⟩ := mkOne_mem q
      exact ⟨b, i, by omega, h1⟩
theorem mkAll_mem {I M O : Nat} {l : List Link} {w : Edge} : ∀ {n : Nat}, w ∈ mkAll I M O l n → ∃ v c i, v < n ∧ c < M + O ∧ i < l.length ∧ v < I + c ∧ w = mkEdge l v (I + c) i
  | 0, h => by cases h
  | n + 1, h => by
    rcases List.mem_append.1 h with q | q
    · obtain ⟨v, c, i, h1, h2⟩ := mkAll_mem q
      exact ⟨v, c, i, by omega, h2⟩
    · obtain ⟨c, i, h1⟩ := mkRow_mem q
      exact ⟨n, c, i, by omega, h1⟩
def edgeLt (p q : Edge) : Prop := p.From < q.From ∨ (p.From = q.From ∧ p.To < q.To)
theorem mkRow_sorted (I M O : Nat) (l : List Link) (v : Nat) : ∀ b, (mkRow I M O l v b).Pairwise edgeLt
  | 0 => List.Pairwise.nil
  | b + 1 => by
    refine List.pairwise_append.2 ⟨mkRow_sorted I M O l v b, ?_, fun p hp q hq => ?_⟩
    · unfold mkOne
      split
      · exact List.Pairwise.nil
      · exact List.pairwise_singleton _ _
    · obtain ⟨c, i, h1, h2, h3, rfl⟩ := mkRow_mem hp
      obtain ⟨j, k1, k2, rfl⟩ := mkOne_mem hq
      refine .inr ⟨rfl, ?_⟩
      simp only [mkEdge]
      omega
theorem mkAll_sorted (I M O : Nat) (l : List Link) : ∀ n, (mkAll I M O l n).Pairwise edgeLt
  | 0 => List.Pairwise.nil
  | n + 1 => by
    refine List.pairwise_append.2 ⟨mkAll_sorted I M O l n, mkRow_sorted I M O l n _, fun p hp q hq => ?_⟩
    obtain ⟨v, c, i, h1, h2, h3, h4, rfl⟩ := mkAll_mem hp
    obtain ⟨c', j, k1, k2, k3, rfl⟩ := mkRow_mem hq
    refine .inl ?_
    simp only [mkEdge]
    omega
def mkGraph (I M O : Nat) (l : List Link) : Graph := ⟨(I : Int), (M : Int), (O : Int), mkAll I M O l (I + M), []⟩

theorem szQ_mk1 {n : Int} {d : Nat} (h1 : -128 ≤ n) (h2 : n ≤ 127) (h3 : 0 < d) (h4 : d ≤ 256) : szQ 1 (mkRat n d) := by
  unfold szQ
  rw [Nat.pow_one, Rat.num_mkRat, if_neg (by omega), Rat.den_mkRat, if_neg (by omega)]
  have h5 : (n / ((d.gcd n.natAbs : Nat) : Int)).natAbs ≤ n.natAbs := Int.natAbs_ediv_le_natAbs _ _
  have h6 := Nat.div_le_self d (d.gcd n.natAbs)
  omega
theorem mk_ok {I M O : Nat} {l : List Link} (hl : LinksOk l) (hI : I ≤ 3) (hM : M ≤ 5) (hO : O ≤ 3) : (mkGraph I M O l).Ok 1 := by
  have hlen := mkAll_len I M O l (I + M)
  have h1 : (I + M) * (M + O) ≤ 8 * 8 := Nat.mul_le_mul (by omega) (by omega)
  refine ⟨fun i hi => ?_, by show (mkAll I M O l (I + M)).length ≤ _; omega, by show 0 ≤ _; omega⟩
  obtain ⟨v, c, j, a1, a2, a3, a4, a5⟩ := mkAll_mem (nth_mem (l := (mkGraph I M O l).Edges) hi)
  rw [a5]
  have := hl j a3
  exact (szQ_mk1 (by omega) (by omega) (by omega) (by omega)).ok
theorem mk_right {I M O : Nat} {l : List Link} (hI1 : 1 ≤ I) (hI : I ≤ 3) (hM : M ≤ 5) (hO1 : 1 ≤ O) (hO : O ≤ 3) : (mkGraph I M O l).right = true := by
  have hs : (mkGraph I M O l).shape.right = true := by
    refine right_of ?_ ?_ ?_
    · rw [sized_iff]; simp only [Graph.shape, mkGraph]; omega
    · intro p hp
      simp only [Graph.shape, mkGraph, List.mem_map] at hp ⊢
      obtain ⟨w, hw, rfl⟩ := hp
      obtain ⟨v, c, j, a1, a2, a3, a4, rfl⟩ := mkAll_mem hw
      simp only [mkEdge, Edge.pair]
      omega
    · simp only [Graph.shape, mkGraph, List.pairwise_map]
      exact (mkAll_sorted I M O l (I + M)).imp fun {a b} h => h
  simp only [Shape.right, Bool.and_eq_true, List.all_eq_true, List.mem_range] at hs
  simp only [Graph.right, Bool.and_eq_true, List.all_eq_true, List.mem_range]
  refine ⟨⟨hs.1, rfl⟩, fun i hi => ?_⟩
  obtain ⟨v, c, j, a1, a2, a3, a4, a5⟩ := mkAll_mem (nth_mem (l := (mkGraph I M O l).Edges) hi)
  have h1 := hs.2 i (by simpa [Graph.shape] using hi)
  have h2 : isR (nth (mkGraph I M O l).Edges i).W = true := by rw [a5]; exact isR_ofR _
  have h3 : (mkGraph I M O l).Gone = [] := rfl
  simp only [Graph.fits, h1, h2, h3, Bool.true_and, List.not_mem_nil, decide_false, Bool.not_false]
/-! ### the loops -/
theorem Made_3 {x y z : Int} {I M O : Nat} {l : List Link} (hx : 1 + x % 3 = (I : Int)) (hy : y % 6 = (M : Int)) (hz : 1 + z % 3 = (O : Int)) (hl : LinksOk l) (hlen : l.length ≤ 1000) (hI1 : 1 ≤ I) (hI : I ≤ 3) (hM : M ≤ 5) (hO1 : 1 ≤ O) (hO : O ≤ 3) (v u : Nat) (o : List Edge) :
    ref17_Made_l_3 x y z l v (u : Int) (-1) 0 o = some (atI (mkAt I M O l v u l.length), o) := by
  unfold ref17_Made_l_3
  refine loop_run (round := fun σ : Int × Nat × List Edge => ref17_Made_l_3_rd x y z l v (u : Int) σ.1 σ.2.1 σ.2.2) (fun i => (atI (mkAt I M O l v u i), i, o)) l.length (fun i hi => ?_) ?_ (by simp only [FU]; omega)
  · obtain ⟨b1, b2, b3, b4, b5, b6, b7, b8⟩ := hl i hi
    have m1 := Int.emod_nonneg (nth l i).To (show (M : Int) + (O : Int) ≠ 0 by omega)
    have m2 := Int.emod_lt_of_pos (nth l i).To (show 0 < (M : Int) + (O : Int) by omega)
    simp (disch := omega) only [ref17_Made_l_3_rd, hx, hy, hz, Bool.cond_decide, if_t, inK_i64, cond_true]
    have hs : mkAt I M O l v u (i + 1) = if mkCond I M O l v u i = true then some i else mkAt I M O l v u i := rfl
    by_cases q1 : (nth l i).From % ((I : Int) + (M : Int)) = (v : Int)
    · have e1 : ((nth l i).From % ((I : Int) + (M : Int)) == (v : Int)) = true := by simpa using q1
      by_cases q2 : (I : Int) + (nth l i).To % ((M : Int) + (O : Int)) = (u : Int)
      · have e2 : ((I : Int) + (nth l i).To % ((M : Int) + (O : Int)) == (u : Int)) = true := by simpa using q2
        by_cases q3 : v < u
        · have e3 : mkCond I M O l v u i = true := by simp only [mkCond, Bool.and_eq_true, decide_eq_true_eq]; exact ⟨⟨q1, q2⟩, q3⟩
          have e4 : (v : Int) < (u : Int) := by omega
          rw [hs, if_pos e3, e1, cond_true, e2, cond_true, if_pos e4]
          rfl
        · have e3 : ¬ mkCond I M O l v u i = true := by simp only [mkCond, Bool.and_eq_true, decide_eq_true_eq]; exact fun h => q3 h.2
          have e4 : ¬ (v : Int) < (u : Int) := by omega
          rw [hs, if_neg e3, e1, cond_true, e2, cond_true, if_neg e4]
      · have e2 : ((I : Int) + (nth l i).To % ((M : Int) + (O : Int)) == (u : Int)) = false := by simpa using q2
        have e3 : ¬ mkCond I M O l v u i = true := by simp only [mkCond, Bool.and_eq_true, decide_eq_true_eq]; exact fun h => q2 h.1.2
        rw [hs, if_neg e3, e1, cond_true, e2, cond_false]
    · have e1 : ((nth l i).From % ((I : Int) + (M : Int)) == (v : Int)) = false := by simpa using q1
      have e3 : ¬ mkCond I M O l v u i = true := by simp only [mkCond, Bool.and_eq_true, decide_eq_true_eq]; exact fun h => q1 h.1.1
      rw [hs, if_neg e3, e1, cond_false]
  · simp only [ref17_Made_l_3_rd, Int.lt_irrefl, decide_false, cond_false]
theorem Made_2 {x y z : Int} {I M O : Nat} {l : List Link} (hx : 1 + x % 3 = (I : Int)) (hy : y % 6 = (M : Int)) (hz : 1 + z % 3 = (O : Int)) (hl : LinksOk l) (hlen : l.length ≤ 1000) (hI1 : 1 ≤ I) (hI : I ≤ 3) (hM : M ≤ 5) (hO1 : 1 ≤ O) (hO : O ≤ 3) (v : Nat) (o : List Edge) (ho : o.length ≤ 1000) :
    ref17_Made_l_2 x y z l v (I : Int) o = some (o ++ mkRow I M O l v (M + O)) := by
  unfold ref17_Made_l_2
  have h := loop_run (round := fun σ : Int × List Edge => ref17_Made_l_2_rd x y z l v σ.1 σ.2) (fun b => (((I + b : Nat) : Int), o ++ mkRow I M O l v b)) (M + O) (r := o ++ mkRow I M O l v (M + O)) (fun b hb => ?_) ?_ (by simp only [FU]; omega)
  · simpa [mkRow] using h
  · have h3 := Made_3 hx hy hz hl hlen hI1 hI hM hO1 hO v (I + b) (o ++ mkRow I M O l v b)
    have hrl := mkRow_len I M O l v b
    have e0 : ((I + b : Nat) : Int) < (I : Int) + (M : Int) + (O : Int) := by omega
    have e1 : ((I + b : Nat) : Int) + 1 = ((I + (b + 1) : Nat) : Int) := by omega
    have e2 : (o ++ mkRow I M O l v b).length ≤ 2000 := by rw [List.length_append]; omega
    have hrow : mkRow I M O l v (b + 1) = mkRow I M O l v b ++ mkOne I M O l v b := rfl
    have hone : mkOne I M O l v b = match mkAt I M O l v (I + b) l.length with
      | none => []
      | some i => [mkEdge l v (I + b) i] := rfl
    have hat : ∀ i, mkAt I M O l v (I + b) l.length = some i → i < l.length := fun i q => (mkAt_some q).1
    rw [hrow, ← List.append_assoc, hone]
    generalize o ++ mkRow I M O l v b = o1 at *
    generalize mkAt I M O l v (I + b) l.length = r at *
    cases r with
    | none =>
      have n1 : ¬ ((-1 : Int) ≥ 0) := by omega
      have h3 : ref17_Made_l_3 x y z l v ((I + b : Nat) : Int) (-1) 0 o1 = some (-1, o1) := h3
      simp (disch := omega) only [ref17_Made_l_2_rd, hx, hy, hz, h3, Bool.cond_decide, if_pos e0, if_neg n1, inK_i64, cond_true, Option.bind_some, e1, List.append_nil]
      cases o1 with
      | nil => simp
      | cons p q => simp
    | some i =>
      have hi := hat i rfl
      obtain ⟨b1, b2, b3, b4, b5, b6, b7, b8⟩ := hl i hi
      have h3 : ref17_Made_l_3 x y z l v ((I + b : Nat) : Int) (-1) 0 o1 = some ((i : Int), o1) := h3
      have hsm := ref08_Small_eq (n := (nth l i).N) (d := (nth l i).D_ % 3) b5 b6 (by omega) (by omega)
      have hed : Edge.mk ((v : Nat) : Int) ((I + b : Nat) : Int) (ofR (mkRat (nth l i).N (((nth l i).D_ % 3).toNat + 1))) = mkEdge l v (I + b) i := rfl
      simp (disch := omega) only [ref17_Made_l_2_rd, hx, hy, hz, h3, Int.toNat_natCast, hsm, Bool.cond_decide, if_pos e0, if_t, inK_i64, cond_true, Option.bind_some, e1, hed]
      cases o1 with
      | nil => simp
      | cons p q => simp
  · have e0 : ¬ ((I + (M + O) : Nat) : Int) < (I : Int) + (M : Int) + (O : Int) := by omega
    simp (disch := omega) only [ref17_Made_l_2_rd, hx, hy, hz, Bool.cond_decide, if_neg e0, inK_i64, cond_true]
theorem Made_eq {x y z : Int} {I M O : Nat} {l : List Link} (hx0 : 0 ≤ x) (hy0 : 0 ≤ y) (hz0 : 0 ≤ z) (hx : 1 + x % 3 = (I : Int)) (hy : y % 6 = (M : Int)) (hz : 1 + z % 3 = (O : Int)) (hl : LinksOk l) (hlen : l.length ≤ 1000) :
    ref17_Made x y z l = some (mkGraph I M O l) := by
  have hI1 : 1 ≤ I := by omega
  have hI : I ≤ 3 := by omega
  have hM : M ≤ 5 := by omega
  have hO1 : 1 ≤ O := by omega
  have hO : O ≤ 3 := by omega
  have key : ref17_Made_l x y z l 0 [] = some (mkAll I M O l (I + M)) := by
    unfold ref17_Made_l
    refine loop_run (round := fun σ : Nat × List Edge => ref17_Made_l_rd x y z l σ.1 σ.2) (fun v => (v, mkAll I M O l v)) (I + M) (fun v hv => ?_) ?_ (by simp only [FU]; omega)
    · have hlen := mkAll_len I M O l v
      have h1 : v * (M + O) ≤ 8 * 8 := Nat.mul_le_mul (by omega) (by omega)
      have h2 := Made_2 hx hy hz hl (by omega) hI1 hI hM hO1 hO v (mkAll I M O l v) (by omega)
      have e0 : (v : Int) < (I : Int) + (M : Int) := by omega
      simp (disch := omega) only [ref17_Made_l_rd, hx, hy, Bool.cond_decide, if_pos e0, h2, Option.bind_some, inK_i64, cond_true]
      rfl
    · have e0 : ¬ ((I + M : Nat) : Int) < (I : Int) + (M : Int) := by omega
      simp only [ref17_Made_l_rd, hx, hy, Bool.cond_decide, if_neg e0]
  have e1 : x % 3 = (I : Int) - 1 := by omega
  have e2 : z % 3 = (O : Int) - 1 := by omega
  have e3 : inK .i64 (x % 3) = true := inK_i64 (by omega) (by omega)
  have e4 : inK .i64 (z % 3) = true := inK_i64 (by omega) (by omega)
  simp (disch := omega) only [ref17_Made, e3, e4, hx, hy, hz, Bool.cond_decide, if_t, inK_i64, cond_true, key, Option.bind_some]
  rfl
end Go.Ab.M
end
