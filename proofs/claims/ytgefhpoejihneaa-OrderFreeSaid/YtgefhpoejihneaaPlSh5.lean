/-
  PLAIN LAW: SHAPES (orders).
-/
import Derived.Test.YtgefhpoejihneaaPlSh4
import Derived.Test.YtgefhpoejihneaaPlSort
namespace Go.Ab
theorem loop_allg {S R : Type} {round : S → Option (S ⊕ R)} (g : Nat → S) (p : Nat → Bool) (n : Nat) (good bad : R) (h1 : ∀ i, i < n → p i = true → round (g i) = some (.inl (g (i + 1)))) (h2 : ∀ i, i < n → p i = false → round (g i) = some (.inr bad)) (h3 : round (g n) = some (.inr good)) (hn : n < FU) :
    loopN round FU (g 0) = some (if (List.range n).all p = true then good else bad) := by
  by_cases h : (List.range n).all p = true
  · rw [if_pos h]
    exact loop_run g n (fun i hi => h1 i hi (List.all_eq_true.1 h i (by simpa using hi))) h3 hn
  · rw [if_neg h]
    obtain ⟨j, g1, g2, g3⟩ := all_find n h
    exact loop_run g j (fun i hi => h1 i (by omega) (g3 i hi)) (h2 j g1 g2) (by omega)
end Go.Ab
namespace Go.Ab.M
set_option linter.unusedVariables false
set_option linter.unusedSimpArgs false

/-- so many numbers from one on -/
def rowOf (f : Int) (m : Nat) : List Int := (List.range m).map fun i : Nat => f + (i : Int)
theorem rowOf_len (f : Int) (m : Nat) : (rowOf f m).length = m := by simp [rowOf]
theorem rowOf_nth {f : Int} {m i : Nat} (h : i < m) : nth (rowOf f m) i = f + (i : Int) := by rw [nth_get (by rw [rowOf_len]; exact h)]; simp [rowOf]
theorem rowOf_mem {f a : Int} {m : Nat} : a ∈ rowOf f m ↔ f ≤ a ∧ a < f + (m : Int) := by
  simp only [rowOf, List.mem_map, List.mem_range]
  constructor
  · rintro ⟨i, h, rfl⟩; omega
  · intro h; exact ⟨(a - f).toNat, by omega, by omega⟩
theorem rowOf_lt (f : Int) (m : Nat) : (rowOf f m).Pairwise (· < ·) := by
  unfold rowOf
  rw [List.pairwise_map]
  exact List.pairwise_lt_range.imp fun {a b} h => by omega
theorem rowOf_nodup (f : Int) (m : Nat) : (rowOf f m).Nodup := by
  rw [List.nodup_iff_pairwise_ne]
  exact (rowOf_lt f m).imp fun {a b} h => by omega
theorem list_eq {a b : List Int} (hl : a.length = b.length) (h : ∀ i, i < a.length → nth a i = nth b i) : a = b := by
  apply List.ext_getElem hl
  intro i h1 h2
  have := h i h1
  rwa [nth_get h1, nth_get h2] at this
theorem sorted_eq {r : List Int} {f : Int} {m : Nat} (hs : SortedTo r r.length) (hp : r.Perm (rowOf f m)) : r = rowOf f m := by
  refine hp.eq_of_pairwise (le := fun a b => a ≤ b) (fun a b _ _ h1 h2 => by omega) ?_ ?_
  · rw [List.pairwise_iff_getElem]
    intro i j hi hj hij
    have := hs i j hij hj
    rwa [nth_get hi, nth_get hj] at this
  · exact (rowOf_lt f m).imp fun {a b} h => by omega
/-- is each there just once? -/
def eachB (f : Int) (m : Nat) (o : List Int) : Bool := decide (o.Perm (rowOf f m))

theorem Each_inner {o : List Int} (ho : o.length ≤ 1000000) (f m v : Int) : ref21_Each_l_2 o f m v 0 0 = some (o.countP (· == v)) := by
  unfold ref21_Each_l_2
  have := loop_run (round := fun σ : Nat × Nat => ref21_Each_l_2_rd o f m v σ.1 σ.2) (fun j => ((o.take j).countP (· == v), j)) o.length (r := o.countP (· == v)) (fun j hj => ?_) ?_ (by simp only [FU]; omega)
  · simpa using this
  · have hc : (o.take j).countP (· == v) ≤ j := Nat.le_trans List.countP_le_length (by rw [List.length_take]; omega)
    simp (disch := omega) only [ref21_Each_l_2_rd, Bool.cond_decide, if_t, Option.bind_some, inK_i64, cond_true, take_nth hj, List.countP_append, List.countP_singleton]
    cases (nth o j == v) <;> rfl
  · simp [ref21_Each_l_2_rd]
theorem Each_eq {o : List Int} {f m : Int} (ho : o.length ≤ 1000000) (hf : 0 ≤ f) (hf2 : f ≤ 1000000) (hm : 0 ≤ m) : ref21_Each o f m = some (eachB f m.toNat o) := by
  by_cases hl : ((o.length : Nat) : Int) = m
  · have hm2 : m ≤ 1000000 := by omega
    have hloop : ref21_Each_l o f m f = some (if (List.range m.toNat).all (fun i => o.countP (· == f + (i : Int)) == 1) = true then .inr () else .inl ()) := by
      unfold ref21_Each_l
      have := loop_allg (round := fun σ : Int => ref21_Each_l_rd o f m σ) (fun i => f + (i : Int)) (fun i => o.countP (· == f + (i : Int)) == 1) m.toNat (.inr ()) (.inl ()) (fun i hi hp => ?_) (fun i hi hp => ?_) ?_ (by simp only [FU]; omega)
      · simpa using this
      · have hp2 : o.countP (· == f + (i : Int)) = 1 := by simpa using hp
        simp (disch := omega) only [ref21_Each_l_rd, Each_inner ho, hp2, Bool.cond_decide, if_t, Option.bind_some, inK_i64, cond_true]
        simp only [Int.cast_ofNat_Int, bne_self_eq_false, cond_false, Option.some.injEq, Sum.inl.injEq]
        omega
      · have hp2 : o.countP (· == f + (i : Int)) ≠ 1 := by simpa using hp
        have hp3 : (((o.countP (· == f + (i : Int)) : Nat) : Int) != 1) = true := by rw [bne_iff_ne]; omega
        simp (disch := omega) only [ref21_Each_l_rd, Each_inner ho, hp3, Bool.cond_decide, if_t, Option.bind_some, inK_i64, cond_true]
      · simp (disch := omega) only [ref21_Each_l_rd, Bool.cond_decide, if_f, inK_i64, cond_true]
    have hne : (((o.length : Nat) : Int) != m) = false := by rw [hl]; exact bne_self_eq_false _
    simp only [ref21_Each, hne, cond_false, hloop, Option.bind_some]
    have hiff : (List.range m.toNat).all (fun i => o.countP (· == f + (i : Int)) == 1) = eachB f m.toNat o := by
      rw [Bool.eq_iff_iff]
      simp only [eachB, decide_eq_true_eq, List.all_eq_true, List.mem_range, beq_iff_eq]
      constructor
      · intro h
        have hsub : ∀ a, a ∈ rowOf f m.toNat → o.count a = 1 := fun a ha => by
          have := rowOf_mem.1 ha
          have h2 := h (a - f).toNat (by omega)
          rw [show f + (((a - f).toNat : Nat) : Int) = a by omega] at h2
          exact h2
        rw [List.perm_iff_count]
        intro a
        by_cases ha : a ∈ rowOf f m.toNat
        · rw [hsub a ha, (rowOf_nodup _ _).count, if_pos ha]
        · rw [List.count_eq_zero_of_not_mem ha]
          refine List.count_eq_zero_of_not_mem fun hao => ?_
          have hnd : (a :: rowOf f m.toNat).Nodup := List.nodup_cons.2 ⟨ha, rowOf_nodup _ _⟩
          have := hnd.length_le_of_subset (l₂ := o) fun x hx => by
            rcases List.mem_cons.1 hx with rfl | hx
            · exact hao
            · exact List.count_pos_iff.1 (by rw [hsub x hx]; omega)
          rw [List.length_cons, rowOf_len] at this
          omega
      · intro hp i hi
        have : o.count (f + (i : Int)) = 1 := by rw [hp.count_eq, (rowOf_nodup _ _).count, if_pos (rowOf_mem.2 (by omega))]
        exact this
    rw [← hiff]
    split <;> rename_i h <;> simp [h]
  · have hne : (((o.length : Nat) : Int) != m) = true := by rw [bne_iff_ne]; exact hl
    have : ¬ o.Perm (rowOf f m.toNat) := fun hp => by
      have := hp.length_eq
      rw [rowOf_len] at this
      omega
    simp [ref21_Each, hne, eachB, this]

theorem each_eq {s : Shape} (hs : 1 ≤ s.Ins ∧ s.Ins ≤ 40 ∧ 0 ≤ s.Mids ∧ s.Mids ≤ 400) {o : List Int} (ho : o.length ≤ 12) : shape_each_2_s s o = some (eachB s.Ins s.Mids.toNat o) := by
  cases o with
  | nil =>
    have h1 : slices_Sort_int_int = some () := by kernel_rfl
    have h2 : shape_each_l s 0 = some (.inr ()) := by
      unfold shape_each_l
      exact loop_run (round := fun σ : Nat => shape_each_l_rd s σ) (fun i => i) 0 (fun i hi => by omega) (by simp [shape_each_l_rd]) (by decide)
    have h3 : shape_each s = some (((([] : List Int).length : Nat) : Int) == s.Mids) := by
      unfold shape_each slices_Clone_int_int_e
      rw [h1, h2]
      rfl
    unfold shape_each_2_s
    rw [List.isEmpty_nil, cond_true, h3]
    refine congrArg some ?_
    rw [Bool.eq_iff_iff]
    unfold eachB
    simp only [beq_iff_eq, decide_eq_true_eq, List.length_nil, List.nil_perm]
    constructor
    · intro h; rw [← h]; rfl
    · intro h
      have := congrArg List.length h
      rw [rowOf_len] at this
      simp at this
      omega
  | cons a t =>
    obtain ⟨r, g1, g2, g3, g4⟩ := Sort_eq (o := a :: t) (by simp) ho
    have hc : slices_Clone_int_int_2 (a :: t) = some (a :: t) := by
      have h1 : decide (0 < (a :: t).length) = true := by simp
      have h2 : decide (0 + (a :: t).length ≤ 2147483648) = true := by simp only [decide_eq_true_eq]; omega
      simp only [slices_Clone_int_int_2, h1, h2, cond_true, List.nil_append]
    have hloop : shape_each_l_2 s r 0 = some (if (List.range r.length).all (fun i => nth r i == s.Ins + (i : Int)) = true then .inr () else .inl ()) := by
      unfold shape_each_l_2
      refine loop_all (round := fun σ : Nat => shape_each_l_2_rd s r σ) (fun i => nth r i == s.Ins + (i : Int)) r.length _ _ (fun i hi hp => ?_) (fun i hi hp => ?_) ?_ (by simp only [FU]; omega)
      · have hp2 : (nth r i != s.Ins + (i : Int)) = false := by simp only [bne, hp, Bool.not_true]
        simp (disch := omega) only [shape_each_l_2_rd, hp2, Bool.cond_decide, if_t, inK_i64, cond_true, cond_false]
      · have hp2 : (nth r i != s.Ins + (i : Int)) = true := by simp only [bne, hp, Bool.not_false]
        simp (disch := omega) only [shape_each_l_2_rd, hp2, Bool.cond_decide, if_t, inK_i64, cond_true]
      · simp [shape_each_l_2_rd]
    have hiff : ((List.range r.length).all (fun i => nth r i == s.Ins + (i : Int)) && (((r.length : Nat) : Int) == s.Mids)) = eachB s.Ins s.Mids.toNat (a :: t) := by
      rw [Bool.eq_iff_iff]
      simp only [eachB, decide_eq_true_eq, List.all_eq_true, List.mem_range, beq_iff_eq, Bool.and_eq_true]
      constructor
      · rintro ⟨h1, h2⟩
        have : r = rowOf s.Ins s.Mids.toNat := list_eq (by rw [rowOf_len]; omega) fun i hi => by rw [h1 i hi, rowOf_nth (by omega)]
        rw [← this]
        exact g3.symm
      · intro hp
        have := sorted_eq (by rw [g2]; exact g4) (g3.trans hp)
        have hlen := congrArg List.length this
        rw [rowOf_len] at hlen
        refine ⟨fun i hi => ?_, by omega⟩
        rw [this, rowOf_nth (by omega)]
    simp only [shape_each_2_s, List.isEmpty_cons, cond_false, shape_each_2, hc, g1, hloop, Option.bind_some]
    rw [← hiff]
    by_cases h : (List.range r.length).all (fun i => nth r i == s.Ins + (i : Int)) = true
    · rw [if_pos h, h, caseS_inr, Bool.true_and]
    · rw [if_neg h, caseS_inl]
      rw [Bool.not_eq_true] at h
      rw [h, Bool.false_and]
end Go.Ab.M
