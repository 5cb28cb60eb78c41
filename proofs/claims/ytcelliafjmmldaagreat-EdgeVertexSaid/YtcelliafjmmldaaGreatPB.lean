/-
  TEXTS PUT TOGETHER: PlSh, PlSh2, PlSh3, PlSh4, PlSort, PlSh5, PlSh6, PlOr, PlOr2, PlOr3, PlOr4, PlFree.
-/
import Derived.Test.YtcelliafjmmldaaGreatPA
import Derived.Test.YtcelliafjmmldaaGreatTA
section
/-
  PLAIN LAW: SHAPES (right ones, costs).
-/
namespace Go.Ab.M
set_option linter.unusedVariables false
set_option linter.unusedSimpArgs false

/-- does the pair at a place fit? -/
def Shape.fits (s : Shape) (i : Nat) : Bool :=
  decide (0 ≤ (nth s.All i).From) && decide ((nth s.All i).From < s.Ins + s.Mids) && decide (s.Ins ≤ (nth s.All i).To) && decide ((nth s.All i).To < s.Ins + s.Mids + s.Outs) && decide ((nth s.All i).From < (nth s.All i).To) &&
    (decide (i = 0) || decide ((nth s.All (i - 1)).From < (nth s.All i).From) || decide ((nth s.All (i - 1)).From = (nth s.All i).From) && decide ((nth s.All (i - 1)).To < (nth s.All i).To))
def Shape.sized (s : Shape) : Bool := decide (1 ≤ s.Ins) && decide (s.Ins ≤ 40) && decide (1 ≤ s.Outs) && decide (s.Outs ≤ 40) && decide (0 ≤ s.Mids) && decide (s.Mids ≤ 400)
def Shape.right (s : Shape) : Bool := s.sized && (List.range s.All.length).all s.fits
def Shape.isMid (s : Shape) (v : Int) : Bool := decide (s.Ins ≤ v) && decide (v < s.Ins + s.Mids)

theorem sized_iff {s : Shape} : s.sized = true ↔ (1 ≤ s.Ins ∧ s.Ins ≤ 40 ∧ 1 ≤ s.Outs ∧ s.Outs ≤ 40 ∧ 0 ≤ s.Mids ∧ s.Mids ≤ 400) := by
  simp only [Shape.sized, Bool.and_eq_true, decide_eq_true_eq]; omega
def cmpI (x y : Int) : Int := if x < y then -1 else if y < x then 1 else 0
theorem cmp_Compare_eq (x y : Int) : cmp_Compare_int x y = some (cmpI x y) := by
  simp only [cmp_Compare_int, cmp_isNaN_int, cmpI, Option.bind_some, bne_self_eq_false, cond_false, Bool.cond_decide]
  repeat' split
  all_goals rfl
theorem cmp_Or_eq (x y : Int) : cmp_Or_int [x, y] = some (if x ≠ 0 then x else y) := by
  have h0 : cmp_Or_int_l_rd [x, y] 0 = some (if x ≠ 0 then .inr (.inl x) else .inl 1) := by
    simp only [cmp_Or_int_l_rd, nth]
    by_cases h : x = 0
    · simp [h, inK, lo, hi]
    · have : (x != 0) = true := by simpa using h
      simp [h, this]
  have h1 : cmp_Or_int_l_rd [x, y] 1 = some (if y ≠ 0 then .inr (.inl y) else .inl 2) := by
    simp only [cmp_Or_int_l_rd, nth]
    by_cases h : y = 0
    · simp [h, inK, lo, hi]
    · have : (y != 0) = true := by simpa using h
      simp [h, this]
  have h2 : cmp_Or_int_l_rd [x, y] 2 = some (.inr (.inr ())) := by simp [cmp_Or_int_l_rd]
  unfold cmp_Or_int cmp_Or_int_l
  by_cases e0 : x = 0
  · by_cases e1 : y = 0
    · rw [loop_run (round := fun σ => cmp_Or_int_l_rd [x, y] σ) (fun i => i) 2 (r := .inr ()) (fun i hi => ?_) h2 (by decide)]
      · simp [e0, e1]
      · rcases i with _ | _ | i
        · rw [h0]; simp [e0]
        · rw [h1]; simp [e1]
        · omega
    · rw [loop_run (round := fun σ => cmp_Or_int_l_rd [x, y] σ) (fun i => i) 1 (r := .inl y) (fun i hi => ?_) (by rw [h1]; simp [e1]) (by decide)]
      · simp [e0]
      · rcases i with _ | i
        · rw [h0]; simp [e0]
        · omega
  · rw [loop_run (round := fun σ => cmp_Or_int_l_rd [x, y] σ) (fun i => i) 0 (r := .inl x) (fun i hi => by omega) (by rw [h0]; simp [e0]) (by decide)]
    simp [e0]
theorem order_ge (p q : Pair) : ((if cmpI p.From q.From ≠ 0 then cmpI p.From q.From else cmpI p.To q.To) ≥ 0) ↔ ¬ (p.From < q.From ∨ (p.From = q.From ∧ p.To < q.To)) := by
  simp only [cmpI]
  repeat' split
  all_goals omega

def insOf (l : List Pair) (v : Int) : List Int := (l.filter fun p => p.To == v).map (·.From)
def outsOf (l : List Pair) (v : Int) : List Int := (l.filter fun p => p.From == v).map (·.To)
def Shape.cost (s : Shape) (v : Int) : Int := if s.right = true ∧ s.isMid v = true then ((insOf s.All v).length : Int) * ((outsOf s.All v).length : Int) else 0
def Shape.has (s : Shape) (a b : Int) : Bool := decide (Pair.mk a b ∈ s.All)
end Go.Ab.M
end

section
/-
  PLAIN LAW: SHAPES (what is left without a vertex).
-/
namespace Go.Ab.M
set_option linter.unusedVariables false
set_option linter.unusedSimpArgs false

theorem nth_set {α : Type} [Inhabited α] {l : List α} {i j : Nat} {x : α} (h : i < l.length) : nth (l.set i x) j = if j = i then x else nth l j := by
  simp only [nth, List.getD, List.getElem?_set]
  by_cases e : i = j
  · subst e; simp [h]
  · rw [if_neg e, if_neg (Ne.symm e)]
/-! ### a right shape in natural numbers -/
def Shape.n (s : Shape) : Nat := (s.Ins + s.Mids + s.Outs).toNat
def pairsTo (n : Nat) (P : Nat → Nat → Bool) (i : Nat) : List Pair := (List.range i).flatMap fun a => ((List.range n).filter (P a)).map fun (b : Nat) => Pair.mk (a : Int) (b : Int)
end Go.Ab.M
end

section
/-
  PLAIN LAW: SHAPES (the next shape, twice).
-/
namespace Go.Ab.M
set_option linter.unusedVariables false
set_option linter.unusedSimpArgs false

/-- is a pair of numbers in the next shape? -/
def nextP (s : Shape) (w a b : Nat) : Bool := decide (a ≠ w) && decide (b ≠ w) && (s.has (a : Int) (b : Int) || (s.has (a : Int) (w : Int) && s.has (w : Int) (b : Int)))

/-- what both say -/
def Shape.next (s : Shape) (v : Int) : Shape × Int × Int :=
  if s.right = true then (if s.isMid v = true then (Shape.mk s.Ins s.Mids s.Outs (pairsTo s.n (nextP s v.toNat) s.n), s.cost v, 0) else (Shape.mk 0 0 0 [], 0, 9)) else (Shape.mk 0 0 0 [], 0, 1)
end Go.Ab.M
end

section
/-
  PLAIN LAW: SHAPES (fill, sameness, and the law).
-/
namespace Go.Ab.M
set_option linter.unusedVariables false
set_option linter.unusedSimpArgs false

def pairLt (p q : Pair) : Prop := p.From < q.From ∨ (p.From = q.From ∧ p.To < q.To)
end Go.Ab.M
end

section
/-
  PLAIN LAW: SORTING OF SHORT LISTS BY INSERTION.
-/
namespace Go.Ab
/-- a loop with a measure -/
theorem loop_mu {S R : Type} {round : S → Option (S ⊕ R)} {Q : R → Prop} (I : S → Prop) (μ : S → Nat) (step : ∀ s, I s → (∃ s', round s = some (.inl s') ∧ I s' ∧ μ s' < μ s) ∨ ∃ r, round s = some (.inr r) ∧ Q r) (s0 : S) (h0 : I s0) (hm : μ s0 < FU) : ∃ r, loopN round FU s0 = some r ∧ Q r := by
  have key : ∀ n s, I s → μ s < n → ∃ r, loopN round n s = some r ∧ Q r := by
    intro n
    induction n with
    | zero => intro s _ h; omega
    | succ n ih =>
      intro s hs hn
      rcases step s hs with ⟨s', h1, h2, h3⟩ | ⟨r, h1, h2⟩
      · obtain ⟨r, h4, h5⟩ := ih s' h2 (by omega)
        exact ⟨r, by simp [loopN, h1, h4], h5⟩
      · exact ⟨r, by simp [loopN, h1], h2⟩
  exact key FU s0 h0 hm
end Go.Ab
namespace Go.Ab.M
set_option linter.unusedVariables false
set_option linter.unusedSimpArgs false

theorem Less_eq (x y : Int) : cmp_Less_int x y = some (decide (x < y)) := by
  simp only [cmp_Less_int, cmp_isNaN_int, Option.bind_some, bne_self_eq_false, cond_false]
/-- sorted up to a place -/
def SortedTo (d : List Int) (i : Nat) : Prop := ∀ p q, p < q → q < i → nth d p ≤ nth d q
theorem swap_nth {d : List Int} {k : Nat} (hk : k < d.length) (h0 : 0 < k) (x : Nat) : nth ((d.set k (nth d (k - 1))).set (k - 1) (nth d k)) x = if x = k - 1 then nth d k else if x = k then nth d (k - 1) else nth d x := by
  rw [nth_set (by rw [List.length_set]; omega), nth_set hk]
theorem swap_perm {d : List Int} {k : Nat} (hk : k < d.length) (h0 : 0 < k) : ((d.set k (nth d (k - 1))).set (k - 1) (nth d k)).Perm d := by
  rw [nth_get hk, nth_get (show k - 1 < d.length by omega)]
  exact List.set_set_perm hk (by omega)
theorem ins_round {b i : Int} {k : Nat} {d : List Int} (hk : k < d.length) (hl : d.length ≤ 1000000) (h0 : 0 < k) :
    slices_insertionSortOrdered_int_l_4_rd 0 b i k d = some (if nth d k < nth d (k - 1) then .inl (((k - 1 : Nat) : Int), (d.set k (nth d (k - 1))).set (k - 1) (nth d k)) else .inr d) := by
  have e1 : ((k : Nat) : Int).toNat = k := Int.toNat_natCast k
  have e2 : (((k : Nat) : Int) - 1).toNat = k - 1 := by omega
  have e3 : ((k : Nat) : Int) - 1 = ((k - 1 : Nat) : Int) := by omega
  simp (disch := omega) only [slices_insertionSortOrdered_int_l_4_rd, e1, e2, Less_eq, Option.bind_some, Bool.cond_decide, if_t, inK_i64, cond_true, List.length_set]
  split
  · rw [e3]
  · rfl
theorem ins_round0 {b i : Int} {d : List Int} : slices_insertionSortOrdered_int_l_4_rd 0 b i ((0 : Nat) : Int) d = some (.inr d) := by
  simp [slices_insertionSortOrdered_int_l_4_rd]
theorem ins_inner {b : Int} {i : Nat} {d0 : List Int} (hi : i < d0.length) (hl : d0.length ≤ 1000000) (hs : SortedTo d0 i) :
    ∃ r, slices_insertionSortOrdered_int_l_4 0 b i i d0 = some r ∧ (r.length = d0.length ∧ r.Perm d0 ∧ SortedTo r (i + 1)) := by
  unfold slices_insertionSortOrdered_int_l_4
  refine loop_mu (fun σ : Int × List Int => ∃ k : Nat, σ.1 = k ∧ k ≤ i ∧ σ.2.length = d0.length ∧ σ.2.Perm d0 ∧ (∀ p q, p < q → q ≤ i → p ≠ k → q ≠ k → nth σ.2 p ≤ nth σ.2 q) ∧ (∀ q, k < q → q ≤ i → nth σ.2 k ≤ nth σ.2 q)) (fun σ => σ.1.toNat) ?_ ((i : Int), d0) ?_ (by simp only [FU]; omega)
  · rintro ⟨j, d⟩ ⟨k, h0, h1, h2, h3, h4, h5⟩
    simp only at h0 h1 h2 h3 h4 h5
    subst h0
    by_cases hk : k = 0
    · subst hk
      refine .inr ⟨d, ins_round0, h2, h3, fun p q hpq hq => ?_⟩
      by_cases hp : p = 0
      · subst hp; exact h5 q (by omega) (by omega)
      · exact h4 p q hpq (by omega) hp (by omega)
    · have hr := ins_round (b := b) (i := (i : Int)) (k := k) (d := d) (by omega) (by omega) (by omega)
      by_cases hlt : nth d k < nth d (k - 1)
      · rw [if_pos hlt] at hr
        refine .inl ⟨_, hr, ⟨k - 1, rfl, by omega, ?_, (swap_perm (by omega) (by omega)).trans h3, ?_, ?_⟩, ?_⟩
        · simp only [List.length_set]; exact h2
        · intro p q hpq hq hp1 hq1
          simp only [swap_nth (show k < d.length by omega) (show 0 < k by omega)]
          rw [if_neg hp1, if_neg hq1]
          by_cases hp : p = k
          · rw [if_pos hp, if_neg (by omega)]; exact h4 (k - 1) q (by omega) hq (by omega) (by omega)
          · rw [if_neg hp]
            by_cases hq2 : q = k
            · rw [if_pos hq2]; exact h4 p (k - 1) (by omega) (by omega) hp (by omega)
            · rw [if_neg hq2]; exact h4 p q hpq hq hp hq2
        · intro q hq1 hq2
          simp only [swap_nth (show k < d.length by omega) (show 0 < k by omega)]
          rw [if_pos trivial, if_neg (by omega)]
          by_cases hq : q = k
          · rw [if_pos hq]; omega
          · rw [if_neg hq]; exact h5 q (by omega) hq2
        · simp only; omega
      · rw [if_neg hlt] at hr
        refine .inr ⟨d, hr, h2, h3, fun p q hpq hq => ?_⟩
        by_cases hp : p = k
        · subst hp; exact h5 q (by omega) (by omega)
        · by_cases hq2 : q = k
          · by_cases hp2 : p = k - 1
            · rw [hp2, hq2]; omega
            · have := h4 p (k - 1) (by omega) (by omega) hp (by omega)
              rw [hq2]; omega
          · exact h4 p q hpq (by omega) hp hq2
  · exact ⟨i, rfl, Nat.le_refl _, rfl, .refl _, fun p q hpq hq _ hq2 => hs p q hpq (by omega), fun q h1 h2 => by omega⟩
theorem ins_outer {d0 : List Int} (h0 : 0 < d0.length) (hl : d0.length ≤ 1000000) :
    ∃ r, slices_insertionSortOrdered_int_l_3 0 (d0.length : Nat) 1 d0 = some r ∧ (r.length = d0.length ∧ r.Perm d0 ∧ SortedTo r d0.length) := by
  unfold slices_insertionSortOrdered_int_l_3
  refine loop_inv (fun t (σ : Int × List Int) => σ.1 = ((t + 1 : Nat) : Int) ∧ σ.2.length = d0.length ∧ σ.2.Perm d0 ∧ SortedTo σ.2 (t + 1)) (d0.length - 1) (1, d0) ⟨rfl, rfl, .refl _, fun p q hpq hq => by omega⟩ ?_ ?_ (by simp only [FU]; omega)
  · rintro t ⟨j, d⟩ ht ⟨e, h1, h2, h3⟩
    simp only at e h1 h2 h3
    subst e
    obtain ⟨r, g1, g2, g3, g4⟩ := ins_inner (b := ((d0.length : Nat) : Int)) (i := t + 1) (d0 := d) (by omega) (by omega) h3
    refine ⟨(((t + 1 + 1 : Nat) : Int), r), ?_, rfl, by simp only; omega, g3.trans h2, g4⟩
    simp (disch := omega) only [slices_insertionSortOrdered_int_l_3_rd, g1, Option.bind_some, Bool.cond_decide, if_t, inK_i64, cond_true]
    rfl
  · rintro ⟨j, d⟩ ⟨e, h1, h2, h3⟩
    simp only at e h1 h2 h3
    subst e
    refine ⟨d, ?_, h1, h2, ?_⟩
    · simp (disch := omega) only [slices_insertionSortOrdered_int_l_3_rd, Bool.cond_decide, if_f]
    · rw [show d0.length - 1 + 1 = d0.length by omega] at h3; exact h3
theorem Len_some : ∀ n : Nat, n < 13 → ∃ r, math_bits_Len (IntKind.wrap .u64 (n : Int)) = some r := by
  intro n hn
  rcases n with _ | _ | _ | _ | _ | _ | _ | _ | _ | _ | _ | _ | _ | n
  all_goals first | omega | exact Option.isSome_iff_exists.1 (by kernel_rfl)
theorem Sort_eq {o : List Int} (h0 : 0 < o.length) (hl : o.length ≤ 12) : ∃ r, slices_Sort_int_int_2 o = some r ∧ (r.length = o.length ∧ r.Perm o ∧ SortedTo r o.length) := by
  obtain ⟨x, hx⟩ := Len_some o.length (by omega)
  obtain ⟨r, h1, h2⟩ := ins_outer h0 (by omega)
  refine ⟨r, ?_, h2⟩
  have e : slices_pdqsortOrdered_int_l_2_rd o 0 ((o.length : Nat) : Int) x = some (.inr r) := by
    simp (disch := omega) only [slices_pdqsortOrdered_int_l_2_rd, slices_insertionSortOrdered_int_2, Int.sub_zero, Int.zero_add, h1, Option.bind_some, Bool.cond_decide, if_t, inK_i64, cond_true]
  have e2 : slices_pdqsortOrdered_int_l_2 o 0 ((o.length : Nat) : Int) x = some r := by
    unfold slices_pdqsortOrdered_int_l_2
    exact loop_run (round := fun (σ : Unit) => slices_pdqsortOrdered_int_l_2_rd o 0 ((o.length : Nat) : Int) x) (fun _ => ()) 0 (fun i hi => by omega) e (by simp only [FU]; omega)
  simp only [slices_Sort_int_int_2, slices_pdqsortOrdered_int_2, hx, e2, Option.bind_some]
end Go.Ab.M
end

section
/-
  PLAIN LAW: SHAPES (orders).
-/
namespace Go.Ab
end Go.Ab
namespace Go.Ab.M
set_option linter.unusedVariables false
set_option linter.unusedSimpArgs false

/-- so many numbers from one on -/
def rowOf (f : Int) (m : Nat) : List Int := (List.range m).map fun i : Nat => f + (i : Int)
/-- is each there just once? -/
def eachB (f : Int) (m : Nat) (o : List Int) : Bool := decide (o.Perm (rowOf f m))

end Go.Ab.M
end

section
/-
  PLAIN LAW: SHAPES (all mids gone in an order; the law).
-/
namespace Go.Ab.M
set_option linter.unusedVariables false
set_option linter.unusedSimpArgs false

/-- what is left, and what it cost, step by step -/
def stepsOf (s : Shape) (o : List Int) : Nat → Int × Shape
  | 0 => (0, s)
  | i + 1 => ((stepsOf s o i).1 + ((stepsOf s o i).2.next (nth o i)).2.1, ((stepsOf s o i).2.next (nth o i)).1)
/-- what both say of an order -/
def Shape.all (s : Shape) (o : List Int) : Int × Int := if s.right = true then (if eachB s.Ins s.Mids.toNat o = true then ((stepsOf s o o.length).1, 0) else (0, 9)) else (0, 1)
end Go.Ab.M
end

section
/-
  PLAIN LAW: ORDERS (what is left is right; the least one; what greedy is).
-/
namespace Go.Ab.M
set_option linter.unusedVariables false
set_option linter.unusedSimpArgs false

theorem right_of {s : Shape} (hz : s.sized = true) (hb : ∀ p ∈ s.All, 0 ≤ p.From ∧ p.From < s.Ins + s.Mids ∧ s.Ins ≤ p.To ∧ p.To < s.Ins + s.Mids + s.Outs ∧ p.From < p.To) (hs : s.All.Pairwise pairLt) : s.right = true := by
  simp only [Shape.right, hz, Bool.true_and]
  rw [List.all_eq_true]
  intro i hi
  have hi : i < s.All.length := by simpa using hi
  have h1 := hb _ (nth_mem hi)
  simp only [Shape.fits, Bool.and_eq_true, Bool.or_eq_true, decide_eq_true_eq]
  refine ⟨⟨⟨⟨⟨h1.1, h1.2.1⟩, h1.2.2.1⟩, h1.2.2.2.1⟩, h1.2.2.2.2⟩, ?_⟩
  rcases Nat.eq_zero_or_pos i with e | e
  · exact .inl (.inl e)
  · have := (List.pairwise_iff_getElem.1 hs) (i - 1) i (by omega) hi (by omega)
    rw [← nth_get, ← nth_get] at this
    rcases this with h | h
    · exact .inl (.inr h)
    · exact .inr h
/-! ### the first least one -/
end Go.Ab.M
end

section
/-
  PLAIN LAW: ORDERS (the program's greedy).
-/
namespace Go.Ab.M
set_option linter.unusedVariables false
set_option linter.unusedSimpArgs false

end Go.Ab.M
end

section
/-
  PLAIN LAW: ORDERS (the document's greedy).
-/
namespace Go.Ab.M
set_option linter.unusedVariables false
set_option linter.unusedSimpArgs false

end Go.Ab.M
end

section
/-
  PLAIN LAW: ORDERS (rising, falling, by a rule; the law).
-/
namespace Go.Ab.M
set_option linter.unusedVariables false
set_option linter.unusedSimpArgs false

end Go.Ab.M
end

section
/-
  PLAIN LAW: CHAINS (each vertex that goes costs one).
-/
namespace Go.Ab.M
set_option linter.unusedVariables false
set_option linter.unusedSimpArgs false

/-! ### an order by a rule has every mid -/
/-! ### the law -/
end Go.Ab.M
end
