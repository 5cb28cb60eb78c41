/-
  TEXTS PUT TOGETHER: PlSh, PlSh2, PlSh3, PlSh4, PlSort, PlSh5, PlSh6, PlOr, PlOr2, PlOr3, PlOr4, PlFree.
-/
import Derived.Test.YtpefcgiiigdcdaaPA
import Derived.Test.YtpefcgiiigdcdaaTA
section
/-
  PLAIN LAW: SHAPES (right ones, costs).
-/
namespace Go.Ab.M
set_option linter.unusedVariables false
set_option linter.unusedSimpArgs false

/-- does the pair at a place fit? -/
def Shape.fits (s : Shape) (i : Nat) : Bool :=
  decide (0 ≤ (nth s.All i).From) && decide ((nth s.All i).From < s.Ins + s.Mids) && decide (s.Ins ≤ (nth s.All i).To) && decide ((nth s.All i).To < s.Ins + s.Mids + s.Outs) && decide ((nth s.All i).From < (nth s.All i).To) &&
    (decide (i = 0) || decide ((nth s.All (i - 1)).From < (nth s.All i).From) || decide ((nth s.All (i - 1)).From = (nth s.All i).From) && decide ((nth s.All (i - 1)).To < (nth s.All i).To))
def Shape.sized (s : Shape) : Bool := decide (1 ≤ s.Ins) && decide (s.Ins ≤ 40) && decide (1 ≤ s.Outs) && decide (s.Outs ≤ 40) && decide (0 ≤ s.Mids) && decide (s.Mids ≤ 400)
def Shape.right (s : Shape) : Bool := s.sized && (List.range s.All.length).all s.fits
def Shape.isMid (s : Shape) (v : Int) : Bool := decide (s.Ins ≤ v) && decide (v < s.Ins + s.Mids)

theorem sized_iff {s : Shape} : s.sized = true ↔ (1 ≤ s.Ins ∧ s.Ins ≤ 40 ∧ 1 ≤ s.Outs ∧ s.Outs ≤ 40 ∧ 0 ≤ s.Mids ∧ s.Mids ≤ 400) := by
  simp only [Shape.sized, Bool.and_eq_true, decide_eq_true_eq]; omega
theorem right_sized {s : Shape} (h : s.right = true) : 1 ≤ s.Ins ∧ s.Ins ≤ 40 ∧ 1 ≤ s.Outs ∧ s.Outs ≤ 40 ∧ 0 ≤ s.Mids ∧ s.Mids ≤ 400 := by
  simp only [Shape.right, Bool.and_eq_true] at h
  exact sized_iff.1 h.1

def cmpI (x y : Int) : Int := if x < y then -1 else if y < x then 1 else 0
theorem cmp_Compare_eq (x y : Int) : cmp_Compare_int x y = some (cmpI x y) := by
  simp only [cmp_Compare_int, cmp_isNaN_int, cmpI, Option.bind_some, bne_self_eq_false, cond_false, Bool.cond_decide]
  repeat' split
  all_goals rfl
theorem cmp_Or_eq (x y : Int) : cmp_Or_int [x, y] = some (if x ≠ 0 then x else y) := by
  have h0 : cmp_Or_int_l_rd [x, y] 0 = some (if x ≠ 0 then .inr (.inl x) else .inl 1) := by
    simp only [cmp_Or_int_l_rd, nth]
    by_cases h : x = 0
    · simp [h, inK, lo, hi]
    · have : (x != 0) = true := by simpa using h
      simp [h, this]
  have h1 : cmp_Or_int_l_rd [x, y] 1 = some (if y ≠ 0 then .inr (.inl y) else .inl 2) := by
    simp only [cmp_Or_int_l_rd, nth]
    by_cases h : y = 0
    · simp [h, inK, lo, hi]
    · have : (y != 0) = true := by simpa using h
      simp [h, this]
  have h2 : cmp_Or_int_l_rd [x, y] 2 = some (.inr (.inr ())) := by simp [cmp_Or_int_l_rd]
  unfold cmp_Or_int cmp_Or_int_l
  by_cases e0 : x = 0
  · by_cases e1 : y = 0
    · rw [loop_run (round := fun σ => cmp_Or_int_l_rd [x, y] σ) (fun i => i) 2 (r := .inr ()) (fun i hi => ?_) h2 (by decide)]
      · simp [e0, e1]
      · rcases i with _ | _ | i
        · rw [h0]; simp [e0]
        · rw [h1]; simp [e1]
        · omega
    · rw [loop_run (round := fun σ => cmp_Or_int_l_rd [x, y] σ) (fun i => i) 1 (r := .inl y) (fun i hi => ?_) (by rw [h1]; simp [e1]) (by decide)]
      · simp [e0]
      · rcases i with _ | i
        · rw [h0]; simp [e0]
        · omega
  · rw [loop_run (round := fun σ => cmp_Or_int_l_rd [x, y] σ) (fun i => i) 0 (r := .inl x) (fun i hi => by omega) (by rw [h0]; simp [e0]) (by decide)]
    simp [e0]
theorem shape_order_eq (p q : Pair) : shape_order p q = some (if cmpI p.From q.From ≠ 0 then cmpI p.From q.From else cmpI p.To q.To) := by
  simp [shape_order, cmp_Compare_eq, cmp_Or_eq]
theorem order_ge (p q : Pair) : ((if cmpI p.From q.From ≠ 0 then cmpI p.From q.From else cmpI p.To q.To) ≥ 0) ↔ ¬ (p.From < q.From ∨ (p.From = q.From ∧ p.To < q.To)) := by
  simp only [cmpI]
  repeat' split
  all_goals omega

theorem Right_rd {s : Shape} {i : Nat} (h : s.sized = true) (hl : s.All.length ≤ 2000000) (hi : i < s.All.length) : shape_Right_l_rd s i = some (if s.fits i = true then .inl (i + 1) else .inr (.inl ())) := by
  rw [sized_iff] at h
  have e1 : (((i : Nat) : Int) - 1).toNat = i - 1 := by omega
  simp (disch := omega) only [shape_Right_l_rd, shape_many, shape_order_eq, order_ge, e1, Bool.cond_decide, if_t, if_f, inK_i64, cond_true, Option.bind_some, Shape.fits, Bool.and_eq_true, Bool.or_eq_true, decide_eq_true_eq]
  repeat' split
  all_goals first | rfl | omega
theorem Right_rd_end {s : Shape} : shape_Right_l_rd s s.All.length = some (.inr (.inr ())) := by
  simp [shape_Right_l_rd]
theorem shape_Right_eq {s : Shape} (hl : s.All.length ≤ 2000000) : shape_Right s = some s.right := by
  by_cases h : s.sized = true
  · have hs := sized_iff.1 h
    have e : shape_Right_l s 0 = some (if (List.range s.All.length).all s.fits = true then .inr () else .inl ()) := by
      unfold shape_Right_l
      exact loop_all (round := fun σ => shape_Right_l_rd s σ) s.fits s.All.length (.inr ()) (.inl ()) (fun i hi hp => by rw [Right_rd h hl hi, if_pos hp]) (fun i hi hp => by rw [Right_rd h hl hi, if_neg (by simp [hp])]) Right_rd_end (by simp only [FU]; omega)
    simp (disch := omega) only [shape_Right, Bool.cond_decide, if_f, e, Option.bind_some, Shape.right, h, Bool.true_and]
    split
    · rename_i h1; rw [h1]; rfl
    · rename_i h1; rw [Bool.not_eq_true] at h1; rw [h1]; rfl
  · have hs := fun q => h (sized_iff.2 q)
    rw [Bool.not_eq_true] at h
    simp only [shape_Right, Shape.right, h, Bool.false_and, Bool.cond_decide]
    repeat' split
    all_goals first | rfl | exact (hs (by omega)).elim

set_option maxHeartbeats 4000000 in
theorem Right22_rd {s : Shape} {i : Nat} (h : s.sized = true) (hl : s.All.length ≤ 2000000) (hi : i < s.All.length) : ref22_Right_l_rd s i = some (if s.fits i = true then .inl (i + 1) else .inr (.inl ())) := by
  rw [sized_iff] at h
  have e1 : (((i : Nat) : Int) - 1).toNat = i - 1 := by omega
  simp (config := { maxSteps := 10000000 }) (disch := omega) only [ref22_Right_l_rd, e1, Shape.fits, Bool.and_eq_true, Bool.or_eq_true, Bool.cond_eq_ite, decide_eq_true_eq, beq_iff_eq, bne_iff_ne, ne_eq, Bool.not_eq_true', inK_i64, if_t, if_f, ite_true, ite_false, eq_self, Option.bind_some]
  repeat' split
  all_goals first | rfl | omega
theorem Right22_rd_end {s : Shape} : ref22_Right_l_rd s s.All.length = some (.inr (.inr ())) := by
  simp [ref22_Right_l_rd]
theorem ref22_Right_eq {s : Shape} (hl : s.All.length ≤ 2000000) : ref22_Right s = some s.right := by
  by_cases h : s.sized = true
  · have hs := sized_iff.1 h
    have e : ref22_Right_l s 0 = some (if (List.range s.All.length).all s.fits = true then .inr () else .inl ()) := by
      unfold ref22_Right_l
      exact loop_all (round := fun σ => ref22_Right_l_rd s σ) s.fits s.All.length (.inr ()) (.inl ()) (fun i hi hp => by rw [Right22_rd h hl hi, if_pos hp]) (fun i hi hp => by rw [Right22_rd h hl hi, if_neg (by simp [hp])]) Right22_rd_end (by simp only [FU]; omega)
    simp (disch := omega) only [ref22_Right, Bool.cond_decide, if_f, e, Option.bind_some, Shape.right, h, Bool.true_and]
    split
    · rename_i h1; rw [h1]; rfl
    · rename_i h1; rw [Bool.not_eq_true] at h1; rw [h1]; rfl
  · have hs := fun q => h (sized_iff.2 q)
    rw [Bool.not_eq_true] at h
    simp only [ref22_Right, Shape.right, h, Bool.false_and, Bool.cond_decide]
    repeat' split
    all_goals first | rfl | exact (hs (by omega)).elim

theorem ref22_Mid_eq {s : Shape} (hl : s.All.length ≤ 2000000) (v : Int) : ref22_Mid s v = some (s.right && s.isMid v) := by
  simp only [ref22_Mid, ref22_Right_eq hl, Option.bind_some]
  cases h : s.right with
  | false => rfl
  | true =>
    have hs := right_sized h
    simp (disch := omega) only [Bool.cond_decide, inK_i64, cond_true, Shape.isMid, ge_iff_le, Bool.true_and]
    split
    · rename_i h1; simp [h1]
    · rename_i h1; simp [h1]

def insOf (l : List Pair) (v : Int) : List Int := (l.filter fun p => p.To == v).map (·.From)
def outsOf (l : List Pair) (v : Int) : List Int := (l.filter fun p => p.From == v).map (·.To)
def Shape.cost (s : Shape) (v : Int) : Int := if s.right = true ∧ s.isMid v = true then ((insOf s.All v).length : Int) * ((outsOf s.All v).length : Int) else 0
def Shape.has (s : Shape) (a b : Int) : Bool := decide (Pair.mk a b ∈ s.All)
theorem ref22_Has_eq {s : Shape} (hl : s.All.length ≤ 2000000) (a b : Int) : ref22_Has s a b = some (s.has a b) := by
  have e : ref22_Has_l s a b 0 = some (if (List.range s.All.length).all (fun i => !decide (nth s.All i = Pair.mk a b)) = true then .inr () else .inl ()) := by
    have key : ∀ i, i < s.All.length → ref22_Has_l_rd s a b i = some (if nth s.All i = Pair.mk a b then .inr (.inl ()) else .inl (i + 1)) := fun i hi => by
      have : nth s.All i = Pair.mk a b ↔ (nth s.All i).From = a ∧ (nth s.All i).To = b := by
        cases nth s.All i; simp
      simp (disch := omega) only [ref22_Has_l_rd, this, Bool.cond_eq_ite, decide_eq_true_eq, beq_iff_eq, bne_iff_ne, ne_eq, Bool.not_eq_true', inK_i64, if_t, if_f, ite_true, ite_false, eq_self, Option.bind_some]
      repeat' split
      all_goals first | rfl | simp_all
    unfold ref22_Has_l
    refine loop_all (round := fun σ => ref22_Has_l_rd s a b σ) (fun i => !decide (nth s.All i = Pair.mk a b)) s.All.length (.inr ()) (.inl ()) (fun i hi hp => ?_) (fun i hi hp => ?_) ?_ (by simp only [FU]; omega)
    · rw [key i hi, if_neg (by simpa using hp)]
    · rw [key i hi, if_pos (by simpa using hp)]
    · simp [ref22_Has_l_rd]
  simp only [ref22_Has, e, Option.bind_some, Shape.has]
  by_cases h : Pair.mk a b ∈ s.All
  · rw [if_neg]
    · simp [h]
    · simp only [List.all_eq_true, List.mem_range, Bool.not_eq_true', decide_eq_false_iff_not]
      intro hh
      obtain ⟨i, hi, e⟩ := List.getElem_of_mem h
      exact hh i hi (by rw [nth_get hi, e])
  · rw [if_pos]
    · simp [h]
    · simp only [List.all_eq_true, List.mem_range, Bool.not_eq_true', decide_eq_false_iff_not]
      intro i hi e
      exact h (e ▸ nth_mem hi)
end Go.Ab.M
end

section
/-
  PLAIN LAW: SHAPES (what is left without a vertex).
-/
namespace Go.Ab.M
set_option linter.unusedVariables false
set_option linter.unusedSimpArgs false

/-! ### a right shape in natural numbers -/
def Shape.n (s : Shape) : Nat := (s.Ins + s.Mids + s.Outs).toNat
theorem right_pair {s : Shape} (h : s.right = true) {p : Pair} (hp : p ∈ s.All) : 0 ≤ p.From ∧ p.From < s.Ins + s.Mids ∧ s.Ins ≤ p.To ∧ p.To < s.Ins + s.Mids + s.Outs ∧ p.From < p.To := by
  obtain ⟨i, hi, e⟩ := List.getElem_of_mem hp
  simp only [Shape.right, Bool.and_eq_true] at h
  have := List.all_eq_true.1 h.2 i (by simpa using hi)
  simp only [Shape.fits, Bool.and_eq_true, decide_eq_true_eq, nth_get hi, e] at this
  omega
theorem n_le {s : Shape} (h : s.right = true) : s.n ≤ 480 ∧ (s.n : Int) = s.Ins + s.Mids + s.Outs := by
  have := right_sized h
  simp only [Shape.n]; omega

def pairsTo (n : Nat) (P : Nat → Nat → Bool) (i : Nat) : List Pair := (List.range i).flatMap fun a => ((List.range n).filter (P a)).map fun (b : Nat) => Pair.mk (a : Int) (b : Int)
end Go.Ab.M
end

section
/-
  PLAIN LAW: SHAPES (the next shape, twice).
-/
namespace Go.Ab.M
set_option linter.unusedVariables false
set_option linter.unusedSimpArgs false

theorem has_lt {s : Shape} (h : s.right = true) {a b : Nat} (hh : s.has (a : Int) (b : Int) = true) : a < b ∧ b < s.n := by
  have hn := n_le h
  simp only [Shape.has, decide_eq_true_eq] at hh
  have := right_pair h hh
  simp only at this
  omega
/-- is a pair of numbers in the next shape? -/
def nextP (s : Shape) (w a b : Nat) : Bool := decide (a ≠ w) && decide (b ≠ w) && (s.has (a : Int) (b : Int) || (s.has (a : Int) (w : Int) && s.has (w : Int) (b : Int)))

/-- what both say -/
def Shape.next (s : Shape) (v : Int) : Shape × Int × Int :=
  if s.right = true then (if s.isMid v = true then (Shape.mk s.Ins s.Mids s.Outs (pairsTo s.n (nextP s v.toNat) s.n), s.cost v, 0) else (Shape.mk 0 0 0 [], 0, 9)) else (Shape.mk 0 0 0 [], 0, 1)
end Go.Ab.M
end

section
/-
  PLAIN LAW: SHAPES (fill, sameness, and the law).
-/
namespace Go.Ab.M
set_option linter.unusedVariables false
set_option linter.unusedSimpArgs false

theorem ref22_Few_eq (s : Shape) : ∃ b, ref22_Few s = some b ∧ (b = true → s.All.length ≤ 40) := by
  simp only [ref22_Few, Bool.cond_decide]
  repeat' split
  · exact ⟨_, rfl, fun h => by simp only [decide_eq_true_eq] at h; omega⟩
  all_goals exact ⟨_, rfl, fun h => by cases h⟩
end Go.Ab.M
end

section
/-
  PLAIN LAW: SORTING OF SHORT LISTS BY INSERTION.
-/
namespace Go.Ab
end Go.Ab
namespace Go.Ab.M
set_option linter.unusedVariables false
set_option linter.unusedSimpArgs false

end Go.Ab.M
end

section
/-
  PLAIN LAW: SHAPES (orders).
-/
namespace Go.Ab
theorem loop_allg {S R : Type} {round : S → Option (S ⊕ R)} (g : Nat → S) (p : Nat → Bool) (n : Nat) (good bad : R) (h1 : ∀ i, i < n → p i = true → round (g i) = some (.inl (g (i + 1)))) (h2 : ∀ i, i < n → p i = false → round (g i) = some (.inr bad)) (h3 : round (g n) = some (.inr good)) (hn : n < FU) :
    loopN round FU (g 0) = some (if (List.range n).all p = true then good else bad) := by
  by_cases h : (List.range n).all p = true
  · rw [if_pos h]
    exact loop_run g n (fun i hi => h1 i hi (List.all_eq_true.1 h i (by simpa using hi))) h3 hn
  · rw [if_neg h]
    obtain ⟨j, g1, g2, g3⟩ := all_find n h
    exact loop_run g j (fun i hi => h1 i (by omega) (g3 i hi)) (h2 j g1 g2) (by omega)
end Go.Ab
namespace Go.Ab.M
set_option linter.unusedVariables false
set_option linter.unusedSimpArgs false

/-- so many numbers from one on -/
def rowOf (f : Int) (m : Nat) : List Int := (List.range m).map fun i : Nat => f + (i : Int)
/-- is each there just once? -/
def eachB (f : Int) (m : Nat) (o : List Int) : Bool := decide (o.Perm (rowOf f m))

end Go.Ab.M
end

section
/-
  PLAIN LAW: SHAPES (all mids gone in an order; the law).
-/
namespace Go.Ab.M
set_option linter.unusedVariables false
set_option linter.unusedSimpArgs false

/-- what is left, and what it cost, step by step -/
def stepsOf (s : Shape) (o : List Int) : Nat → Int × Shape
  | 0 => (0, s)
  | i + 1 => ((stepsOf s o i).1 + ((stepsOf s o i).2.next (nth o i)).2.1, ((stepsOf s o i).2.next (nth o i)).1)
/-- what both say of an order -/
def Shape.all (s : Shape) (o : List Int) : Int × Int := if s.right = true then (if eachB s.Ins s.Mids.toNat o = true then ((stepsOf s o o.length).1, 0) else (0, 9)) else (0, 1)
end Go.Ab.M
end

section
/-
  PLAIN LAW: ORDERS (what is left is right; the least one; what greedy is).
-/
namespace Go.Ab.M
set_option linter.unusedVariables false
set_option linter.unusedSimpArgs false

/-! ### the first least one -/
end Go.Ab.M
end

section
/-
  PLAIN LAW: ORDERS (the program's greedy).
-/
namespace Go.Ab.M
set_option linter.unusedVariables false
set_option linter.unusedSimpArgs false

end Go.Ab.M
end

section
/-
  PLAIN LAW: ORDERS (the document's greedy).
-/
namespace Go.Ab.M
set_option linter.unusedVariables false
set_option linter.unusedSimpArgs false

end Go.Ab.M
end

section
/-
  PLAIN LAW: ORDERS (rising, falling, by a rule; the law).
-/
namespace Go.Ab.M
set_option linter.unusedVariables false
set_option linter.unusedSimpArgs false

end Go.Ab.M
end

section
/-
  PLAIN LAW: CHAINS (each vertex that goes costs one).
-/
namespace Go.Ab.M
set_option linter.unusedVariables false
set_option linter.unusedSimpArgs false

/-! ### an order by a rule has every mid -/
/-! ### the law -/
end Go.Ab.M
end
