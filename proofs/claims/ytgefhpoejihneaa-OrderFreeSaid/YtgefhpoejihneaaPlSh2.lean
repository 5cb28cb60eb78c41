/-
  PLAIN LAW: SHAPES (what is left without a vertex).
-/
import Derived.Test.YtgefhpoejihneaaPlSh
import Derived.Test.YtgefhpoejihneaaPlBit
namespace Go.Ab.M
set_option linter.unusedVariables false
set_option linter.unusedSimpArgs false

/-- all rows are of words -/
def AllW (L : List (Nat → Int)) : Prop := ∀ i, i < L.length → WF (nth L i)
theorem nth_set {α : Type} [Inhabited α] {l : List α} {i j : Nat} {x : α} (h : i < l.length) : nth (l.set i x) j = if j = i then x else nth l j := by
  simp only [nth, List.getD, List.getElem?_set]
  by_cases e : i = j
  · subst e; simp [h]
  · rw [if_neg e, if_neg (Ne.symm e)]
theorem put_eq {L : List (Nat → Int)} (hW : AllW L) {bi v : Nat} (hb : bi < L.length) (hv : v < 512) : ∃ L', shape_bits_put L bi (v : Int) = some L' ∧ L'.length = L.length ∧ AllW L' ∧ ∀ a b, hasF (nth L' a) b = (hasF (nth L a) b || (decide (a = bi) && decide (b = v))) := by
  have e1 : (((v : Nat) : Int) / 64).toNat = v / 64 := by omega
  have e2 : ((v : Nat) : Int) % 64 = ((v % 64 : Nat) : Int) := by omega
  have hp := put_has (hW bi hb) v
  refine ⟨L.set bi (putF (nth L bi) (v / 64) (orI' .u64 (nth L bi (v / 64)) (shlI .u64 1 ((v : Int) % 64)))), ?_, List.length_set .., ?_, fun a b => ?_⟩
  · simp (disch := omega) only [shape_bits_put, e1, Bool.cond_decide, if_t]
  · intro i hi
    rw [nth_set hb]
    split
    · rw [e2]; exact hp.1
    · exact hW i (by simpa using hi)
  · rw [nth_set hb]
    by_cases e : a = bi
    · subst e
      rw [if_pos rfl, e2, hp.2]
      simp
    · rw [if_neg e]; simp [e]
theorem drop_eq {L : List (Nat → Int)} (hW : AllW L) {bi v : Nat} (hb : bi < L.length) (hv : v < 512) : ∃ L', shape_bits_drop L bi (v : Int) = some L' ∧ L'.length = L.length ∧ AllW L' ∧ ∀ a b, hasF (nth L' a) b = (hasF (nth L a) b && !(decide (a = bi) && decide (b = v))) := by
  have e1 : (((v : Nat) : Int) / 64).toNat = v / 64 := by omega
  have e2 : ((v : Nat) : Int) % 64 = ((v % 64 : Nat) : Int) := by omega
  have hp := drop_has (hW bi hb) v
  refine ⟨L.set bi (putF (nth L bi) (v / 64) (andNotI .u64 (nth L bi (v / 64)) (shlI .u64 1 ((v : Int) % 64)))), ?_, List.length_set .., ?_, fun a b => ?_⟩
  · simp (disch := omega) only [shape_bits_drop, e1, Bool.cond_decide, if_t]
  · intro i hi
    rw [nth_set hb]
    split
    · rw [e2]; exact hp.1
    · exact hW i (by simpa using hi)
  · rw [nth_set hb]
    by_cases e : a = bi
    · subst e
      rw [if_pos rfl, e2, hp.2]
      simp
    · rw [if_neg e]; simp [e]
theorem has_eq {L : List (Nat → Int)} (hW : AllW L) {bi v : Nat} (hb : bi < L.length) (hv : v < 512) : shape_bits_has L bi (v : Int) = some (hasF (nth L bi) v) := by
  have e1 : (((v : Nat) : Int) / 64).toNat = v / 64 := by omega
  have e2 : ((v : Nat) : Int) % 64 = ((v % 64 : Nat) : Int) := by omega
  simp (disch := omega) only [shape_bits_has, e1, Bool.cond_decide, if_t]
  rw [e2, has_bit (hW bi hb (v / 64)) (Nat.mod_lt v (by omega))]
  rfl
theorem has_eq2 {f : Nat → Int} (hW : WF f) {v : Nat} (hv : v < 512) : shape_bits_has_2 f (v : Int) = some (hasF f v) := by
  have e1 : (((v : Nat) : Int) / 64).toNat = v / 64 := by omega
  have e2 : ((v : Nat) : Int) % 64 = ((v % 64 : Nat) : Int) := by omega
  simp (disch := omega) only [shape_bits_has_2, e1, Bool.cond_decide, if_t]
  rw [e2, has_bit (hW (v / 64)) (Nat.mod_lt v (by omega))]
  rfl

/-! ### a right shape in natural numbers -/
def Shape.n (s : Shape) : Nat := (s.Ins + s.Mids + s.Outs).toNat
theorem right_pair {s : Shape} (h : s.right = true) {p : Pair} (hp : p ∈ s.All) : 0 ≤ p.From ∧ p.From < s.Ins + s.Mids ∧ s.Ins ≤ p.To ∧ p.To < s.Ins + s.Mids + s.Outs ∧ p.From < p.To := by
  obtain ⟨i, hi, e⟩ := List.getElem_of_mem hp
  simp only [Shape.right, Bool.and_eq_true] at h
  have := List.all_eq_true.1 h.2 i (by simpa using hi)
  simp only [Shape.fits, Bool.and_eq_true, decide_eq_true_eq, nth_get hi, e] at this
  omega
theorem n_le {s : Shape} (h : s.right = true) : s.n ≤ 480 ∧ (s.n : Int) = s.Ins + s.Mids + s.Outs := by
  have := right_sized h
  simp only [Shape.n]; omega

theorem rows_eq {s : Shape} (h : s.right = true) (hl : s.All.length ≤ 2000000) : ∃ L, shape_rows s = some L ∧ shape_rows_2 s = some L ∧ L.length = s.n ∧ AllW L ∧ ∀ a b, a < s.n → hasF (nth L a) b = s.has a b := by
  have hs := right_sized h
  have hn := n_le h
  have e0 : (s.Ins + s.Mids + s.Outs).toNat = s.n := rfl
  have hmany : shape_many s = some (s.Ins + s.Mids + s.Outs) := by
    simp (disch := omega) only [shape_many, inK_i64, cond_true]
  have key : ∃ L, shape_rows_l s (s.Ins + s.Mids + s.Outs) 0 (List.replicate s.n (fun _ => 0)) = some L ∧ (L.length = s.n ∧ AllW L ∧ ∀ a b, a < s.n → hasF (nth L a) b = s.has a b) := by
    unfold shape_rows_l
    refine loop_inv (fun i σ => σ.1 = i ∧ σ.2.length = s.n ∧ AllW σ.2 ∧ ∀ a b, a < s.n → hasF (nth σ.2 a) b = decide (Pair.mk (a : Int) (b : Int) ∈ s.All.take i)) s.All.length (0, List.replicate s.n (fun _ => 0)) ?_ ?_ ?_ (by simp only [FU]; omega)
    · refine ⟨rfl, by simp, fun i hi => ?_, fun a b ha => ?_⟩
      · have : nth (List.replicate s.n (fun _ : Nat => (0 : Int))) i = fun _ => 0 := by simp [nth, List.getD, List.getElem?_replicate]; simp at hi; simp [hi]
        simp only [this]; exact wf_zero
      · have : nth (List.replicate s.n (fun _ : Nat => (0 : Int))) a = fun _ => 0 := by simp [nth, List.getD, List.getElem?_replicate, ha]
        simp only [this, has_zero]; simp
    · rintro i ⟨j, L⟩ hi ⟨h0, h1, h2, h3⟩
      simp only at h0 h1 h2 h3
      subst h0
      have hp := right_pair h (nth_mem hi)
      obtain ⟨f, hf⟩ : ∃ f : Nat, (nth s.All j).From = f := ⟨(nth s.All j).From.toNat, by omega⟩
      obtain ⟨t, ht⟩ : ∃ t : Nat, (nth s.All j).To = t := ⟨(nth s.All j).To.toNat, by omega⟩
      rw [hf, ht] at hp
      obtain ⟨L', g1, g2, g3, g4⟩ := put_eq h2 (bi := f) (v := t) (by omega) (by omega)
      refine ⟨(j + 1, L'), ?_, rfl, by simp only; omega, g3, fun a b ha => ?_⟩
      · simp (disch := omega) only [shape_rows_l_rd, hf, ht, Int.toNat_natCast, g1, Bool.cond_decide, if_t, Option.bind_some, inK_i64, cond_true]
      · simp only [g4, h3 a b ha, take_nth hi, List.mem_append, List.mem_singleton]
        have : (Pair.mk (a : Int) (b : Int) = nth s.All j) ↔ (a = f ∧ b = t) := by
          cases hq : nth s.All j with
          | mk x y =>
            rw [hq] at hf ht
            simp only [Pair.mk.injEq] at hf ht ⊢
            omega
        simp only [this, Bool.decide_or, Bool.decide_and]
    · rintro ⟨j, L⟩ ⟨h0, h1, h2, h3⟩
      simp only at h0 h1 h2 h3
      subst h0
      refine ⟨L, by simp [shape_rows_l_rd], h1, h2, fun a b ha => ?_⟩
      rw [h3 a b ha, List.take_length]; rfl
  obtain ⟨L, h1, h2⟩ := key
  refine ⟨L, ?_, ?_, h2⟩
  · simp (disch := omega) only [shape_rows, hmany, Option.bind_some, Bool.cond_decide, if_t, e0, h1]
  · simp (disch := omega) only [shape_rows_2, hmany, Option.bind_some, Bool.cond_decide, if_t, e0, h1]

theorem mem_ins {s : Shape} {v a : Int} : a ∈ insOf s.All v ↔ Pair.mk a v ∈ s.All := by
  simp only [insOf, List.mem_map, List.mem_filter, beq_iff_eq]
  constructor
  · rintro ⟨p, ⟨h1, h2⟩, h3⟩
    cases p; simp only at h2 h3; subst h2; subst h3; exact h1
  · intro h; exact ⟨_, ⟨h, rfl⟩, rfl⟩
theorem mem_outs {s : Shape} {v a : Int} : a ∈ outsOf s.All v ↔ Pair.mk v a ∈ s.All := by
  simp only [outsOf, List.mem_map, List.mem_filter, beq_iff_eq]
  constructor
  · rintro ⟨p, ⟨h1, h2⟩, h3⟩
    cases p; simp only at h2 h3; subst h2; subst h3; exact h1
  · intro h; exact ⟨_, ⟨h, rfl⟩, rfl⟩

/-- all pairs of numbers below n for which P holds, in order -/
def pairsOf (n : Nat) (P : Nat → Nat → Bool) : List Pair := (List.range n).flatMap fun a => ((List.range n).filter (P a)).map fun (b : Nat) => Pair.mk (a : Int) (b : Int)
def pairsTo (n : Nat) (P : Nat → Nat → Bool) (i : Nat) : List Pair := (List.range i).flatMap fun a => ((List.range n).filter (P a)).map fun (b : Nat) => Pair.mk (a : Int) (b : Int)
def rowTo (P : Nat → Nat → Bool) (a j : Nat) : List Pair := ((List.range j).filter (P a)).map fun (b : Nat) => Pair.mk (a : Int) (b : Int)
theorem rowTo_step (P : Nat → Nat → Bool) (a j : Nat) : rowTo P a (j + 1) = if P a j = true then rowTo P a j ++ [Pair.mk (a : Int) (j : Int)] else rowTo P a j := by
  simp only [rowTo, List.range_succ, List.filter_append, List.map_append, List.filter_cons, List.filter_nil]
  split <;> simp
theorem pairsTo_step (n : Nat) (P : Nat → Nat → Bool) (i : Nat) : pairsTo n P (i + 1) = pairsTo n P i ++ rowTo P i n := by
  simp [pairsTo, rowTo, List.range_succ]
theorem rowTo_len (P : Nat → Nat → Bool) (a j : Nat) : (rowTo P a j).length ≤ j := by
  simp only [rowTo, List.length_map]
  have := List.length_filter_le (P a) (List.range j)
  simpa using this
theorem pairsTo_len (n : Nat) (P : Nat → Nat → Bool) : ∀ i, (pairsTo n P i).length ≤ i * n
  | 0 => by simp [pairsTo]
  | i + 1 => by
    rw [pairsTo_step, List.length_append, Nat.add_mul]
    have := pairsTo_len n P i
    have := rowTo_len P i n
    omega
theorem pairsTo_congr {n : Nat} {P Q : Nat → Nat → Bool} (h : ∀ a b, a < n → b < n → P a b = Q a b) : ∀ i, i ≤ n → pairsTo n P i = pairsTo n Q i
  | 0, _ => rfl
  | i + 1, hi => by
    rw [pairsTo_step, pairsTo_step, pairsTo_congr h i (by omega)]
    congr 1
    simp only [rowTo]
    congr 1
    apply List.filter_congr
    intro b hb
    exact h i b (by omega) (by simpa using hb)
theorem mem_pairsTo {n : Nat} {P : Nat → Nat → Bool} {i : Nat} {p : Pair} : p ∈ pairsTo n P i ↔ ∃ a b : Nat, a < i ∧ b < n ∧ P a b = true ∧ p = Pair.mk a b := by
  simp only [pairsTo, List.mem_flatMap, List.mem_map, List.mem_filter, List.mem_range]
  constructor
  · rintro ⟨a, ha, b, ⟨hb, hp⟩, rfl⟩; exact ⟨a, b, ha, hb, hp, rfl⟩
  · rintro ⟨a, b, ha, hb, hp, rfl⟩; exact ⟨a, ha, b, ⟨hb, hp⟩, rfl⟩
end Go.Ab.M
