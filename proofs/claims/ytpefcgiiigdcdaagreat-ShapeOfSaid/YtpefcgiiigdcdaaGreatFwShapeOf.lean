/-
  THE LAW 'ShapeOf' HOLDS AT EVERY INPUT.
  Conditions: none.
-/
import Derived.Test.YtpefcgiiigdcdaaGreatLwShapeOf
import Derived.Test.YtpefcgiiigdcdaaGreatTQ
import Derived.Test.YtpefcgiiigdcdaaGreatPA
import Derived.Test.YtpefcgiiigdcdaaGreatPN
import Derived.Test.YtpefcgiiigdcdaaGreatPT
import Derived.Test.YtpefcgiiigdcdaaGreatWA
import Derived.Test.YtpefcgiiigdcdaaGreatPB
section
/-
  PLAIN LAW: slices.Compact at pairs keeps the first of each run; of a sorted list that is each pair once.
-/
namespace Go.Ab.M
open Go.Proofs Go.Ab
set_option linter.unusedVariables false
set_option linter.unusedSimpArgs false

theorem plus_is (a b : Nat) : plus a b = a + b := by
  cases a with
  | zero => simp [plus]
  | succ a => cases b <;> simp [plus]
theorem lenOf_is (a n : Nat) : lenOf a none n = n - a := by cases a <;> rfl
def keepsP (l : List Pair) (j : Nat) : Bool := decide (j = 0) || !decide (nth l j = nth l (j - 1))
def kp (l : List Pair) : Nat → List Pair
  | 0 => []
  | m + 1 => kp l m ++ (if keepsP l m = true then [nth l m] else [])
theorem pair_beq (x y : Pair) : ((x.From == y.From) && ((x.To == y.To) && true)) = decide (x = y) := by
  rw [Bool.and_true]
  cases x; cases y
  rw [Bool.eq_iff_iff]
  simp only [Bool.and_eq_true, beq_iff_eq, decide_eq_true_eq, Pair.mk.injEq]
theorem kp_len (l : List Pair) : ∀ m, (kp l m).length ≤ m
  | 0 => Nat.le_refl _
  | m + 1 => by
    have := kp_len l m
    unfold kp
    rw [List.length_append]
    split
    · simp only [List.length_singleton]; omega
    · simp only [List.length_nil]; omega
theorem kp_all {l : List Pair} : ∀ {m}, m ≤ l.length → (∀ j, j < m → keepsP l j = true) → kp l m = l.take m
  | 0, _, _ => by simp [kp]
  | m + 1, h, hk => by
    unfold kp
    rw [kp_all (by omega) (fun j hj => hk j (by omega)), if_pos (hk m (by omega)), take_nth (by omega)]
theorem kp_yes {l : List Pair} {m : Nat} (h : keepsP l m = true) : kp l (m + 1) = kp l m ++ [nth l m] := by
  rw [kp, if_pos h]
theorem kp_no {l : List Pair} {m : Nat} (h : keepsP l m = false) : kp l (m + 1) = kp l m := by
  rw [kp, if_neg (by rw [h]; exact Bool.false_ne_true), List.append_nil]
theorem keeps_is {l : List Pair} {m : Nat} (h : 0 < m) : keepsP l m = !decide (nth l m = nth l (m - 1)) := by
  unfold keepsP
  rw [decide_eq_false (by omega : ¬ m = 0), Bool.false_or]
structure CInv (l : List Pair) (k : Nat) (i : Nat) (k1 k2 : Nat) (s : List Pair) : Prop where
  e2 : k2 = 1 + i
  len : s.length = l.length
  lt : k1 < k + k2
  le : k1 ≤ l.length
  tk : s.take k1 = kp l (k + k2)
  hi : ∀ j, k + k2 ≤ j + 1 → j < l.length → nth s j = nth l j
theorem nth_setne {l : List Pair} {i j : Nat} {x : Pair} (h : i ≠ j) : nth (l.set i x) j = nth l j := by
  simp [nth, List.getD, List.getElem?_set_ne h]
theorem nth_setP {l : List Pair} {i : Nat} {x : Pair} (h : i < l.length) : nth (l.set i x) i = x := by
  rw [nth_get (by rw [List.length_set]; exact h)]
  exact List.getElem_set_self _
theorem compact_l4 {l : List Pair} {k : Nat} (hk1 : 1 ≤ k) (hk : k < l.length) (hl : l.length ≤ 1000000) (hall : ∀ j, j < k → keepsP l j = true) (hno : keepsP l k = false) :
    ∃ y : Nat × List Pair, slices_Compact_api_Pair_api_Pair_l_4 k k 1 l = some y ∧ (y.2.length = l.length ∧ y.1 < l.length ∧ y.2.take y.1 = kp l l.length) := by
  unfold slices_Compact_api_Pair_api_Pair_l_4
  refine loop_inv (round := fun σ : Nat × Nat × List Pair => slices_Compact_api_Pair_api_Pair_l_4_rd k σ.1 σ.2.1 σ.2.2) (fun i σ => CInv l k i σ.1 σ.2.1 σ.2.2) (l.length - k - 1) (k, 1, l) ⟨rfl, rfl, by dsimp only; omega, by dsimp only; omega, by dsimp only; rw [kp_no hno, kp_all (by omega) hall], fun _ _ _ => rfl⟩ ?_ ?_ (by simp only [FU]; omega)
  · rintro i ⟨k1, k2, s⟩ hi ⟨h2, hlen, hlt, hle, htk, hhi⟩
    dsimp only at hi h2 hlen hlt hle htk hhi ⊢
    have e1 := lenOf_is k s.length
    have e2 := plus_is k k2
    have t1 : (((k2 : Nat) : Int) - 1).toNat = k2 - 1 := by omega
    have e3 := plus_is k (k2 - 1)
    have g1 : ((k2 : Nat) : Int) < ((s.length - k : Nat) : Int) := by omega
    have g2 : k2 < s.length - k := by omega
    have g3 : k + k2 < s.length := by omega
    have g4 : (0 : Int) ≤ ((k2 : Nat) : Int) - 1 := by omega
    have g5 : k2 - 1 < s.length - k := by omega
    have g6 : k + (k2 - 1) < s.length := by omega
    have g7 : k1 < s.length := by omega
    have n1 : nth s (k + k2) = nth l (k + k2) := hhi _ (by omega) (by omega)
    have n2 : nth s (k + (k2 - 1)) = nth l (k + k2 - 1) := by
      rw [hhi _ (by omega) (by omega)]; congr 1; omega
    have hkp := keeps_is (l := l) (m := k + k2) (by omega)
    cases hc : keepsP l (k + k2) with
    | true =>
      rw [hc] at hkp
      refine ⟨(k1 + 1, k2 + 1, s.set k1 (nth l (k + k2))), ?_, by dsimp only; omega, by rw [List.length_set]; exact hlen, by dsimp only; omega, by dsimp only; omega, ?_, fun j h1 h2 => ?_⟩
      · simp (disch := omega) only [slices_Compact_api_Pair_api_Pair_l_4_rd, Bool.cond_decide, e1, e2, t1, e3, if_pos g1, if_pos g2, if_pos g3, if_pos g4, if_pos g5, if_pos g6, if_pos g7, inK_i64, cond_true, pair_beq, n1, n2, ← hkp]
      · dsimp only
        rw [show k + (k2 + 1) = k + k2 + 1 by omega, kp_yes hc, take_nth (by rw [List.length_set]; omega), nth_setP (by omega), List.take_set_of_le (Nat.le_refl _), htk]
      · dsimp only at h1 ⊢
        rw [nth_setne (by omega)]
        exact hhi j (by omega) h2
    | false =>
      rw [hc] at hkp
      refine ⟨(k1, k2 + 1, s), ?_, by dsimp only; omega, hlen, by dsimp only; omega, hle, ?_, fun j h1 h2 => hhi j (by dsimp only at h1; omega) h2⟩
      · simp (disch := omega) only [slices_Compact_api_Pair_api_Pair_l_4_rd, Bool.cond_decide, e1, e2, t1, e3, if_pos g1, if_pos g2, if_pos g3, if_pos g4, if_pos g5, if_pos g6, inK_i64, cond_true, cond_false, pair_beq, n1, n2, ← hkp]
      · dsimp only
        rw [show k + (k2 + 1) = k + k2 + 1 by omega, kp_no hc, htk]
  · rintro ⟨k1, k2, s⟩ ⟨h2, hlen, hlt, hle, htk, hhi⟩
    dsimp only at h2 hlen hlt hle htk hhi ⊢
    have e1 := lenOf_is k s.length
    have g1 : ¬ ((k2 : Nat) : Int) < ((s.length - k : Nat) : Int) := by omega
    refine ⟨(k1, s), ?_, hlen, by dsimp only; omega, ?_⟩
    · simp only [slices_Compact_api_Pair_api_Pair_l_4_rd, Bool.cond_decide, e1, if_neg g1]
    · dsimp only
      rw [htk]; congr 1; omega
theorem compact_eq {l : List Pair} (hl : l.length ≤ 1000000) : slices_Compact_api_Pair_api_Pair_2 l = some (kp l l.length) := by
  have k0 : keepsP l 0 = true := rfl
  by_cases c : l.length < 2
  · have g1 : ((l.length : Nat) : Int) < 2 := by omega
    simp only [slices_Compact_api_Pair_api_Pair_2, Bool.cond_decide, if_pos g1]
    have hk0 : ∀ j, j < l.length → keepsP l j = true := fun j hj => by
      obtain rfl : j = 0 := by omega
      exact k0
    rw [kp_all (Nat.le_refl _) hk0, List.take_length]
  have g1 : ¬ ((l.length : Nat) : Int) < 2 := by omega
  have step : ∀ i, 1 ≤ i → i < l.length → keepsP l i = true → slices_Compact_api_Pair_api_Pair_l_3_rd l i = some (.inl (i + 1)) := fun i h1 h2 hk => by
    have hkp := keeps_is (l := l) (m := i) (by omega)
    rw [hk] at hkp
    have t1 : (((i : Nat) : Int) - 1).toNat = i - 1 := by omega
    have g2 : ((i : Nat) : Int) < ((l.length : Nat) : Int) := by omega
    have g3 : (0 : Int) ≤ ((i : Nat) : Int) - 1 := by omega
    have g4 : i - 1 < l.length := by omega
    have hkp' : decide (nth l i = nth l (i - 1)) = false := by
      cases hd : decide (nth l i = nth l (i - 1)) with
      | false => rfl
      | true => rw [hd] at hkp; cases hkp
    simp (disch := omega) only [slices_Compact_api_Pair_api_Pair_l_3_rd, Bool.cond_decide, t1, if_pos g2, if_pos h2, if_pos g3, if_pos g4, inK_i64, cond_true, cond_false, pair_beq, hkp']
  by_cases hall : ∀ j, j < l.length → keepsP l j = true
  · have hloop : slices_Compact_api_Pair_api_Pair_l_3 l 1 = some (.inr ()) := by
      unfold slices_Compact_api_Pair_api_Pair_l_3
      refine loop_run (round := fun σ : Nat => slices_Compact_api_Pair_api_Pair_l_3_rd l σ) (fun i => i + 1) (l.length - 1) (fun i hi => step (i + 1) (by omega) (by omega) (hall _ (by omega))) ?_ (by simp only [FU]; omega)
      have g2 : ¬ ((l.length - 1 + 1 : Nat) : Int) < ((l.length : Nat) : Int) := by omega
      simp only [slices_Compact_api_Pair_api_Pair_l_3_rd, Bool.cond_decide, if_neg g2]
    simp only [slices_Compact_api_Pair_api_Pair_2, Bool.cond_decide, if_neg g1, hloop, Option.bind_some, caseS]
    rw [kp_all (Nat.le_refl _) hall, List.take_length]
  · obtain ⟨d, hd, hno, hlow⟩ : ∃ d, d < l.length ∧ keepsP l d = false ∧ ∀ i, i < d → keepsP l i = true := by
      refine all_find l.length fun h => hall fun j hj => List.all_eq_true.1 h j (by simpa using hj)
    have hd1 : 1 ≤ d := by
      rcases Nat.eq_zero_or_pos d with h | h
      · rw [h, k0] at hno; cases hno
      · exact h
    obtain ⟨⟨y1, y2⟩, e, h1, h2, h3⟩ := compact_l4 hd1 hd hl hlow hno
    dsimp only at h1 h2 h3
    have hloop : slices_Compact_api_Pair_api_Pair_l_3 l 1 = some (.inl (kp l l.length)) := by
      unfold slices_Compact_api_Pair_api_Pair_l_3
      refine loop_run (round := fun σ : Nat => slices_Compact_api_Pair_api_Pair_l_3_rd l σ) (fun i => i + 1) (d - 1) (fun i hi => step (i + 1) (by omega) (by omega) (hlow _ (by omega))) ?_ (by simp only [FU]; omega)
      rw [show d - 1 + 1 = d by omega]
      have hkp := keeps_is (l := l) (m := d) (by omega)
      rw [hno] at hkp
      have hkp' : decide (nth l d = nth l (d - 1)) = true := by
        cases hd : decide (nth l d = nth l (d - 1)) with
        | true => rfl
        | false => rw [hd] at hkp; cases hkp
      have t1 : (((d : Nat) : Int) - 1).toNat = d - 1 := by omega
      have g2 : ((d : Nat) : Int) < ((l.length : Nat) : Int) := by omega
      have g3 : (0 : Int) ≤ ((d : Nat) : Int) - 1 := by omega
      have g4 : d - 1 < l.length := by omega
      have g5 : d ≤ l.length := by omega
      have g6 : 0 + l.length ≤ l.length := by omega
      have g7 : y1 ≤ y2.length := by omega
      have g8 : 0 + y2.length ≤ y2.length := by omega
      have g9 : y1 < y2.length := by omega
      have ln : (y2.take y1 ++ List.replicate (y2.length - y1) (Pair.mk 0 0)).length = y2.length := by rw [List.length_append, List.length_take, List.length_replicate]; omega
      have g10 : 0 ≤ y1 := Nat.zero_le _
      have tk : (y2.take y1 ++ List.replicate (y2.length - y1) (Pair.mk 0 0)).take y1 = kp l l.length := by
        rw [List.take_append_of_le_length (by rw [List.length_take]; omega), List.take_take, Nat.min_self, h3]
      simp (disch := omega) only [slices_Compact_api_Pair_api_Pair_l_3_rd, Bool.cond_decide, t1, if_pos g2, if_pos hd, if_pos g3, if_pos g4, inK_i64, cond_true, pair_beq, hkp', List.length_map, if_pos g5, if_pos g6, if_pos (Nat.le_refl _), e, Option.bind_some, if_pos g7, if_pos g8, if_pos g9, ln, if_pos g10, tk]
    simp only [slices_Compact_api_Pair_api_Pair_2, Bool.cond_decide, if_neg g1, hloop, Option.bind_some, caseS]
/-! ### sorted lists -/
def pLt (x y : Pair) : Prop := x.From < y.From ∨ (x.From = y.From ∧ x.To < y.To)
def pLe (x y : Pair) : Prop := x.From < y.From ∨ (x.From = y.From ∧ x.To ≤ y.To)
theorem pLt_of {x y : Pair} (h : pLe x y) (n : y ≠ x) : pLt x y := by
  rcases h with h | ⟨h1, h2⟩
  · exact .inl h
  · refine .inr ⟨h1, ?_⟩
    rcases Int.lt_or_eq_of_le h2 with h | h
    · exact h
    · exfalso
      apply n
      cases x; cases y
      simp only at h1 h
      rw [h1, h]
theorem pLe_lt {x y z : Pair} (h : pLe x y) (k : pLt y z) : pLt x z := by
  unfold pLe pLt at *
  omega
theorem kp_mem {l : List Pair} {x : Pair} : ∀ {m}, x ∈ kp l m ↔ ∃ j, j < m ∧ nth l j = x
  | 0 => by simp [kp]
  | m + 1 => by
    constructor
    · intro h
      rw [kp, List.mem_append] at h
      rcases h with h | h
      · obtain ⟨j, h1, h2⟩ := kp_mem.1 h
        exact ⟨j, by omega, h2⟩
      · split at h
        · exact ⟨m, by omega, (List.mem_singleton.1 h).symm⟩
        · cases h
    · rintro ⟨j, h1, h2⟩
      rw [kp, List.mem_append]
      by_cases c : j < m
      · exact .inl (kp_mem.2 ⟨j, c, h2⟩)
      · obtain rfl : j = m := by omega
        cases hk : keepsP l j with
        | true => right; rw [if_pos rfl, h2]; exact List.mem_singleton.2 rfl
        | false =>
          left
          have hj : 0 < j := by
            rcases Nat.eq_zero_or_pos j with h | h
            · rw [h] at hk; cases hk
            · exact h
          have e := keeps_is (l := l) hj
          rw [hk] at e
          have e' : nth l j = nth l (j - 1) := by
            by_cases c : nth l j = nth l (j - 1)
            · exact c
            · rw [decide_eq_false c] at e; cases e
          exact kp_mem.2 ⟨j - 1, by omega, by rw [← e', h2]⟩
theorem kp_sorted {l : List Pair} (h : ∀ i j, i ≤ j → j < l.length → pLe (nth l i) (nth l j)) : ∀ {m}, m ≤ l.length → (kp l m).Pairwise pLt
  | 0, _ => .nil
  | m + 1, hm => by
    rw [kp, List.pairwise_append]
    refine ⟨kp_sorted h (by omega), ?_, fun x hx y hy => ?_⟩
    · split
      · exact List.pairwise_singleton _ _
      · exact .nil
    · split at hy
      · rename_i hk
        rw [List.mem_singleton.1 hy]
        obtain ⟨j, h1, rfl⟩ := kp_mem.1 hx
        have e := keeps_is (l := l) (m := m) (by omega)
        rw [hk] at e
        have hne : nth l m ≠ nth l (m - 1) := fun c => by rw [decide_eq_true c] at e; cases e
        exact pLe_lt (h j (m - 1) (by omega) (by omega)) (pLt_of (h (m - 1) m (by omega) (by omega)) hne)
      · cases hy
theorem sortH_le (l : List Pair) : ∀ i j, i ≤ j → j < (sortH l).length → pLe (nth (sortH l) i) (nth (sortH l) j) := fun i j hij hj => by
  rcases Nat.lt_or_eq_of_le hij with h | h
  · have hp : (sortH l).Pairwise (fun a b => leH a b = true) := List.pairwise_mergeSort leH_trans leH_total _
    have := List.pairwise_iff_getElem.1 hp i j (by omega) hj h
    rw [nth_get (by omega), nth_get hj]
    unfold leH at this
    rw [decide_eq_true_eq] at this
    exact this
  · subst h; exact .inr ⟨rfl, Int.le_refl _⟩
theorem pLt_uniq {l m : List Pair} (h : l.Pairwise pLt) (k : m.Pairwise pLt) (e : ∀ x, x ∈ l ↔ x ∈ m) : l = m := by
  have nd : ∀ {l : List Pair}, l.Pairwise pLt → l.Nodup := fun h => h.imp fun {a b} hab he => by
    rw [he] at hab
    unfold pLt at hab
    omega
  refine ((List.perm_ext_iff_of_nodup (nd h) (nd k)).2 e).eq_of_pairwise (le := pLt) (fun a b _ _ h1 h2 => ?_) h k
  unfold pLt at h1 h2
  omega
/-- sorted, each once -/
theorem compact_sorted {l : List Pair} (hl : l.length ≤ 1000000) : ∃ m, slices_Compact_api_Pair_api_Pair_2 (sortH l) = some m ∧ m.Pairwise pLt ∧ m.length ≤ l.length ∧ ∀ x, x ∈ m ↔ x ∈ l := by
  have hp : (sortH l).Perm l := List.mergeSort_perm l leH
  have hlen := hp.length_eq
  refine ⟨_, compact_eq (by omega), kp_sorted (sortH_le l) (Nat.le_refl _), by have := kp_len (sortH l) (sortH l).length; omega, fun x => ?_⟩
  rw [kp_mem, ← hp.mem_iff]
  constructor
  · rintro ⟨j, h1, rfl⟩; exact nth_mem h1
  · intro h
    obtain ⟨j, h1, rfl⟩ := List.getElem_of_mem h
    exact ⟨j, h1, nth_get h1⟩
end Go.Ab.M
end

section
/-
  PLAIN LAW: A TAPE's SHAPE, by the program: the pairs that places are made of, those on no way left out.
-/
namespace Go.Ab.M
open Go.Proofs Go.Ab
set_option linter.unusedVariables false
set_option linter.unusedSimpArgs false

/-- a tape whose places are there -/
structure TapeP (t : Tape) (I M O : Nat) : Prop where
  ins : t.Ins = (I : Int)
  i1 : 1 ≤ I
  i2 : I ≤ 40
  ops : t.Ops.length = M
  m2 : M ≤ 400
  outs : t.Outs.length = O
  o1 : 1 ≤ O
  o2 : O ≤ 40
  code : ∀ i, i < M → 1 ≤ (nth t.Ops i).Code
  a : ∀ i, i < M → (nth t.Ops i).Code ≠ 1 → ∃ a : Nat, (nth t.Ops i).A_ = (a : Int) ∧ a < I + i
  b : ∀ i, i < M → (nth t.Ops i).Code ≠ 1 → (nth t.Ops i).Code ≤ 5 → ∃ b : Nat, (nth t.Ops i).B_ = (b : Int) ∧ b < I + i
  out : ∀ r, r < O → ∃ o : Nat, nth t.Outs r = (o : Int) ∧ o < I + M
def usesP (o : TOp) (v : Nat) : Prop := o.Code ≠ 1 ∧ (o.A_ = (v : Int) ∨ (o.Code ≤ 5 ∧ o.B_ = (v : Int)))
/-- what is made of what -/
def dep (t : Tape) (I M O : Nat) (a b : Nat) : Prop := (∃ i, i < M ∧ b = I + i ∧ usesP (nth t.Ops i) a) ∨ (∃ r, r < O ∧ b = I + M + r ∧ nth t.Outs r = (a : Int))
theorem dep_lt {t : Tape} {I M O : Nat} (h : TapeP t I M O) {a b : Nat} (d : dep t I M O a b) : a < b ∧ a < I + M ∧ I ≤ b ∧ b < I + M + O := by
  rcases d with ⟨i, hi, rfl, hc, hu⟩ | ⟨r, hr, rfl, e⟩
  · have : a < I + i := by
      rcases hu with e | ⟨h5, e⟩
      · obtain ⟨a', e', k⟩ := h.a i hi hc
        omega
      · obtain ⟨b', e', k⟩ := h.b i hi hc h5
        omega
    omega
  · obtain ⟨o, e', k⟩ := h.out r hr
    omega
def opP (o : TOp) (to : Int) : List Pair := (if o.Code ≠ 1 then [⟨o.A_, to⟩] else []) ++ (if o.Code ≥ 2 ∧ o.Code ≤ 5 then [⟨o.B_, to⟩] else [])
def opAll (t : Tape) (I : Nat) : Nat → List Pair
  | 0 => []
  | k + 1 => opAll t I k ++ opP (nth t.Ops k) ((I + k : Nat) : Int)
def outAll (t : Tape) (N : Nat) : Nat → List Pair
  | 0 => []
  | k + 1 => outAll t N k ++ [⟨nth t.Outs k, ((N + k : Nat) : Int)⟩]
theorem opP_len (o : TOp) (to : Int) : (opP o to).length ≤ 2 := by
  unfold opP
  rw [List.length_append]
  split <;> split <;> simp
theorem opAll_len (t : Tape) (I : Nat) : ∀ k, (opAll t I k).length ≤ 2 * k
  | 0 => Nat.le_refl _
  | k + 1 => by
    have := opAll_len t I k
    have := opP_len (nth t.Ops k) ((I + k : Nat) : Int)
    unfold opAll
    rw [List.length_append]; omega
theorem outAll_len (t : Tape) (N : Nat) : ∀ k, (outAll t N k).length = k
  | 0 => rfl
  | k + 1 => by unfold outAll; rw [List.length_append, outAll_len t N k]; rfl
theorem mem_opAll {t : Tape} {I : Nat} {p : Pair} : ∀ {k : Nat}, p ∈ opAll t I k ↔ ∃ i, i < k ∧ p ∈ opP (nth t.Ops i) ((I + i : Nat) : Int)
  | 0 => by simp [opAll]
  | k + 1 => by
    unfold opAll
    rw [List.mem_append, mem_opAll]
    constructor
    · rintro (⟨i, h1, h2⟩ | h)
      · exact ⟨i, by omega, h2⟩
      · exact ⟨k, by omega, h⟩
    · rintro ⟨i, h1, h2⟩
      by_cases c : i < k
      · exact .inl ⟨i, c, h2⟩
      · obtain rfl : i = k := by omega
        exact .inr h2
theorem mem_outAll {t : Tape} {N : Nat} {p : Pair} : ∀ {k : Nat}, p ∈ outAll t N k ↔ ∃ r, r < k ∧ p = ⟨nth t.Outs r, ((N + r : Nat) : Int)⟩
  | 0 => by simp [outAll]
  | k + 1 => by
    unfold outAll
    rw [List.mem_append, mem_outAll, List.mem_singleton]
    constructor
    · rintro (⟨i, h1, h2⟩ | h)
      · exact ⟨i, by omega, h2⟩
      · exact ⟨k, by omega, h⟩
    · rintro ⟨i, h1, h2⟩
      by_cases c : i < k
      · exact .inl ⟨i, c, h2⟩
      · obtain rfl : i = k := by omega
        exact .inr h2
/-- the pairs are those of what is made of what -/
theorem mem_pairs {t : Tape} {I M O : Nat} (h : TapeP t I M O) {p : Pair} : p ∈ opAll t I M ++ outAll t (I + M) O ↔ ∃ a b : Nat, p = ⟨(a : Int), (b : Int)⟩ ∧ dep t I M O a b := by
  rw [List.mem_append, mem_opAll, mem_outAll]
  constructor
  · rintro (⟨i, hi, hp⟩ | ⟨r, hr, rfl⟩)
    · unfold opP at hp
      rw [List.mem_append] at hp
      rcases hp with hp | hp
      · split at hp
        · rename_i c
          obtain ⟨a, e, k⟩ := h.a i hi c
          exact ⟨a, I + i, by rw [List.mem_singleton.1 hp, e], .inl ⟨i, hi, rfl, c, .inl e⟩⟩
        · cases hp
      · split at hp
        · rename_i c
          obtain ⟨b, e, k⟩ := h.b i hi (by omega) c.2
          exact ⟨b, I + i, by rw [List.mem_singleton.1 hp, e], .inl ⟨i, hi, rfl, by omega, .inr ⟨c.2, e⟩⟩⟩
        · cases hp
    · obtain ⟨o, e, k⟩ := h.out r hr
      exact ⟨o, I + M + r, by rw [e], .inr ⟨r, hr, rfl, e⟩⟩
  · rintro ⟨a, b, rfl, ⟨i, hi, rfl, hc, hu⟩ | ⟨r, hr, rfl, e⟩⟩
    · refine .inl ⟨i, hi, ?_⟩
      have h1 := h.code i hi
      unfold opP
      rw [List.mem_append]
      rcases hu with e | ⟨h5, e⟩
      · left; rw [if_pos hc, e]; exact List.mem_singleton.2 rfl
      · right; rw [if_pos ⟨by omega, h5⟩, e]; exact List.mem_singleton.2 rfl
    · exact .inr ⟨r, hr, by rw [e]⟩
theorem pairs_l4 {t : Tape} {I M O : Nat} (h : TapeP t I M O) : shape_pairs_l_4 t [] 0 = some (opAll t I M) := by
  have hI := h.ins
  have hM := h.ops
  have i2 := h.i2
  have m2 := h.m2
  unfold shape_pairs_l_4
  refine loop_run (round := fun σ : List Pair × Nat => shape_pairs_l_4_rd t σ.1 σ.2) (fun i => (opAll t I i, i)) M (fun i hi => ?_) ?_ (by simp only [FU]; omega)
  · have hl := opAll_len t I i
    have c1 := h.code i hi
    have g1 : ((i : Nat) : Int) < (t.Ops.length : Int) := by omega
    have g2 : i < t.Ops.length := by omega
    have g3 : (opAll t I i).length + 1 ≤ 2147483648 := by omega
    have eI : t.Ins + ((i : Nat) : Int) = ((I + i : Nat) : Int) := by omega
    have st : opAll t I (i + 1) = opAll t I i ++ opP (nth t.Ops i) ((I + i : Nat) : Int) := rfl
    dsimp only
    rw [st]
    unfold opP
    by_cases c : (nth t.Ops i).Code = 1
    · have e1 : ((nth t.Ops i).Code != 1) = false := by rw [c]; rfl
      have g4 : ¬ (nth t.Ops i).Code ≥ 2 := by omega
      rw [if_neg (by omega), if_neg (by omega), List.append_nil, List.append_nil]
      simp (disch := omega) only [shape_pairs_l_4_rd, Bool.cond_decide, if_pos g1, if_pos g2, e1, cond_false, if_neg g4, inK_i64, cond_true]
    · have e1 : ((nth t.Ops i).Code != 1) = true := by rw [bne_iff_ne]; exact c
      have g4 : (nth t.Ops i).Code ≥ 2 := by omega
      by_cases c5 : (nth t.Ops i).Code ≤ 5
      · have g5 : (opAll t I i ++ [Pair.mk (nth t.Ops i).A_ ((I + i : Nat) : Int)]).length + 1 ≤ 2147483648 := by rw [List.length_append, List.length_singleton]; omega
        rw [if_pos c, if_pos ⟨g4, c5⟩]
        simp (disch := omega) only [shape_pairs_l_4_rd, Bool.cond_decide, if_pos g1, if_pos g2, e1, cond_true, eI, if_pos g3, if_pos g4, if_pos c5, if_pos g5, inK_i64, List.append_assoc, List.singleton_append]
      · rw [if_pos c, if_neg (by omega), List.append_nil]
        simp (disch := omega) only [shape_pairs_l_4_rd, Bool.cond_decide, if_pos g1, if_pos g2, e1, cond_true, eI, if_pos g3, if_pos g4, if_neg c5, inK_i64]
  · have g1 : ¬ ((M : Nat) : Int) < (t.Ops.length : Int) := by omega
    simp only [shape_pairs_l_4_rd, Bool.cond_decide, if_neg g1]
theorem pairs_l5 {t : Tape} {I M O : Nat} (h : TapeP t I M O) {l : List Pair} (hl : l.length ≤ 10000) : shape_pairs_l_5 t l 0 = some (l ++ outAll t (I + M) O) := by
  have hI := h.ins
  have hM := h.ops
  have hO := h.outs
  have i2 := h.i2
  have m2 := h.m2
  have o2 := h.o2
  unfold shape_pairs_l_5
  have e0 : l ++ outAll t (I + M) 0 = l := List.append_nil l
  have key := loop_run (round := fun σ : List Pair × Nat => shape_pairs_l_5_rd t σ.1 σ.2) (fun i => (l ++ outAll t (I + M) i, i)) O (r := l ++ outAll t (I + M) O) (fun i hi => ?_) ?_ (by simp only [FU]; omega)
  · rw [e0] at key
    exact key
  · have hl2 := outAll_len t (I + M) i
    have g1 : ((i : Nat) : Int) < (t.Outs.length : Int) := by omega
    have g2 : i < t.Outs.length := by omega
    have g3 : (l ++ outAll t (I + M) i).length + 1 ≤ 2147483648 := by rw [List.length_append]; omega
    have eI : t.Ins + ((t.Ops.length : Nat) : Int) = ((I + M : Nat) : Int) := by omega
    have eJ : ((I + M : Nat) : Int) + ((i : Nat) : Int) = ((I + M + i : Nat) : Int) := by omega
    have st : outAll t (I + M) (i + 1) = outAll t (I + M) i ++ [⟨nth t.Outs i, ((I + M + i : Nat) : Int)⟩] := rfl
    dsimp only
    rw [st]
    simp (disch := omega) only [shape_pairs_l_5_rd, Bool.cond_decide, if_pos g1, if_pos g2, eI, eJ, if_pos g3, inK_i64, cond_true, List.append_assoc]
  · have g1 : ¬ ((O : Nat) : Int) < (t.Outs.length : Int) := by omega
    simp only [shape_pairs_l_5_rd, Bool.cond_decide, if_neg g1]
theorem shape_pairs_eq {t : Tape} {I M O : Nat} (h : TapeP t I M O) : shape_pairs_2 t = some (.inr (opAll t I M ++ outAll t (I + M) O)) := by
  have hl := opAll_len t I M
  have ho := outAll_len t (I + M) O
  have o1 := h.o1
  have m2 := h.m2
  have key : ∀ l : List Pair, (l ++ outAll t (I + M) O).isEmpty = false := fun l => by
    rw [List.isEmpty_eq_false_iff]
    intro e
    have := congrArg List.length e
    rw [List.length_append, ho] at this
    simp only [List.length_nil] at this
    omega
  unfold shape_pairs_2
  rw [pairs_l4 h, Option.bind_some]
  cases he : (opAll t I M).isEmpty with
  | true =>
    have e : opAll t I M = [] := List.isEmpty_iff.1 he
    rw [cond_true, pairs_l5 h (l := []) (Nat.zero_le _), Option.bind_some, key, cond_false, e]
  | false => rw [cond_false, Bool.not_false, cond_true, pairs_l5 h (by omega), Option.bind_some, key, cond_false]
/-! ### the graph -/
def wE (p : Pair) : Edge := ⟨p.From, p.To, ⟨false, [], [1]⟩⟩
theorem Of_l {t : Tape} {m : List Pair} (hm : m.length ≤ 10000) : shape_Of_l t m 0 [] = some (m.map wE) := by
  unfold shape_Of_l
  have e0 : ∀ i, i ≤ m.length → ((m.take i).map wE).length = i := fun i hi => by rw [List.length_map, List.length_take]; omega
  have := loop_run (round := fun σ : Nat × List Edge => shape_Of_l_rd t m σ.1 σ.2) (fun i => (i, (m.take i).map wE)) m.length (r := m.map wE) (fun i hi => ?_) ?_ (by simp only [FU]; omega)
  · exact this
  · have g1 : ((i : Nat) : Int) < (m.length : Int) := by omega
    have g3 : ((m.take i).map wE).length + 1 ≤ 2147483648 := by rw [e0 i (by omega)]; omega
    dsimp only
    rw [take_nth hi, List.map_append]
    simp (disch := omega) only [shape_Of_l_rd, Bool.cond_decide, if_pos g1, if_pos hi, if_pos g3, inK_i64, cond_true]
    rfl
  · have g1 : ¬ ((m.length : Nat) : Int) < (m.length : Int) := by omega
    simp only [shape_Of_l_rd, Bool.cond_decide, if_neg g1, List.take_length]
def g0 (t : Tape) (m : List Pair) : Graph := ⟨t.Ins, ((t.Ops.length : Nat) : Int), ((t.Outs.length : Nat) : Int), m.map wE, []⟩
/-- a list of a tape's pairs, sorted, each once -/
structure Prs (t : Tape) (I M O : Nat) (m : List Pair) : Prop where
  mem : ∀ p, p ∈ m ↔ ∃ a b : Nat, p = ⟨(a : Int), (b : Int)⟩ ∧ dep t I M O a b
  srt : m.Pairwise pLt
  len : m.length ≤ 2000
theorem isR_zero : isR ⟨false, [], [1]⟩ = true := by
  rw [← ofR_zero]; exact isR_ofR 0
theorem g0_rgr {t : Tape} {I M O : Nat} (h : TapeP t I M O) {m : List Pair} (hm : Prs t I M O m) : RGr (g0 t m) I M O := by
  refine ⟨h.ins, by rw [← h.ops]; rfl, by rw [← h.outs]; rfl, h.i1, h.i2, h.m2, h.o1, h.o2, fun w hw => ?_, ?_, fun v hv => (by cases hv), List.Pairwise.nil⟩
  · obtain ⟨p, hp, rfl⟩ := List.mem_map.1 hw
    obtain ⟨a, b, rfl, d⟩ := (hm.mem p).1 hp
    have := dep_lt h d
    refine ⟨?_, ?_, ?_, ?_, ?_, isR_zero⟩
    · show (0 : Int) ≤ (a : Int); omega
    · show (a : Int) < _; omega
    · show (I : Int) ≤ (b : Int); omega
    · show (b : Int) < _; omega
    · show (a : Int) < (b : Int); omega
  · show (m.map wE).Pairwise edgeLt
    rw [List.pairwise_map]
    exact hm.srt.imp fun {a b} hab => hab
theorem g0_ok {t : Tape} {I M O : Nat} (h : TapeP t I M O) {m : List Pair} (hm : Prs t I M O m) : (g0 t m).Ok 1 := by
  refine ⟨fun i hi => ?_, ?_, Nat.zero_le _⟩
  · have hi' : i < (m.map wE).length := hi
    obtain ⟨p, hp, e⟩ := List.mem_map.1 (nth_mem (l := m.map wE) hi')
    have : nth (g0 t m).Edges i = wE p := e.symm
    rw [this]
    show okL 1 (⟨false, [], [1]⟩ : Rat)
    rw [← ofR_zero]
    exact szQ.ok (n := 1) ⟨by decide, by decide⟩
  · show (m.map wE).length ≤ 100000
    have := hm.len
    rw [List.length_map]; omega
def ftOf (e : PE) : Nat × Nat := (e.f, e.t)
theorem foldF_congr : ∀ {l m : List PE} (s : Nat → Bool), l.map ftOf = m.map ftOf → foldF s l = foldF s m
  | [], [], s, _ => rfl
  | [], _ :: _, s, h => by cases h
  | _ :: _, [], s, h => by cases h
  | a :: l, b :: m, s, h => by
    rw [List.map_cons, List.map_cons, List.cons.injEq] at h
    have e : stepF s a = stepF s b := by
      have h1 : a.f = b.f := congrArg Prod.fst h.1
      have h2 : a.t = b.t := congrArg Prod.snd h.1
      unfold stepF
      rw [h1, h2]
    show foldF (stepF s a) l = foldF (stepF s b) m
    rw [e]
    exact foldF_congr _ h.2
theorem bkB_congr : ∀ {l m : List PE} (s : Nat → Bool), l.map ftOf = m.map ftOf → bkB s l = bkB s m
  | [], [], s, _ => rfl
  | [], _ :: _, s, h => by cases h
  | _ :: _, [], s, h => by cases h
  | a :: l, b :: m, s, h => by
    rw [List.map_cons, List.map_cons, List.cons.injEq] at h
    have h1 : a.f = b.f := congrArg Prod.fst h.1
    have h2 : a.t = b.t := congrArg Prod.snd h.1
    rw [bkB_step, bkB_step, bkB_congr s h.2]
    unfold stepB
    rw [h1, h2]
/-- is a pair on a way? -/
def onW (I M : Nat) (m : List Pair) (p : Pair) : Bool := fr I (m.map fun p => ⟨p.From.toNat, p.To.toNat, 0⟩) p.From.toNat && to_ (I + M) (m.map fun p => ⟨p.From.toNat, p.To.toNat, 0⟩) p.To.toNat
/-- a graph's edges that are kept, as pairs -/
theorem keep_pairs (I M : Nat) {l : List Edge} {m : List Pair} (e : l.map Edge.pair = m) : (l.filter (keepB I M (l.map Edge.pe))).map Edge.pair = m.filter (onW I M m) := by
  have hft : (l.map Edge.pe).map ftOf = (m.map fun p => (⟨p.From.toNat, p.To.toNat, 0⟩ : PE)).map ftOf := by
    rw [← e, List.map_map, List.map_map, List.map_map]
    rfl
  have hk : ∀ w, keepB I M (l.map Edge.pe) w = onW I M m w.pair := fun w => by
    unfold keepB onW fr to_
    rw [foldF_congr _ hft, bkB_congr _ hft]
    rfl
  have : ∀ l' : List Edge, (l'.filter (keepB I M (l.map Edge.pe))).map Edge.pair = (l'.map Edge.pair).filter (onW I M m) := fun l' => by
    induction l' with
    | nil => rfl
    | cons w l' ih =>
      rw [List.filter_cons, List.map_cons, List.filter_cons, hk w]
      cases onW I M m w.pair with
      | true => simp only [if_true, List.map_cons, ih]
      | false => simp only [Bool.false_eq_true, if_false, ih]
  rw [this l, e]
theorem wE_pair (m : List Pair) : (m.map wE).map Edge.pair = m := by
  rw [List.map_map]
  exact List.map_id' m
/-- A TAPE's SHAPE -/
def shapeOf (t : Tape) (I M : Nat) (m : List Pair) : Shape := ⟨t.Ins, ((t.Ops.length : Nat) : Int), ((t.Outs.length : Nat) : Int), m.filter (onW I M m)⟩
theorem g0_shape {t : Tape} {I M : Nat} {m : List Pair} : ((g0 t m).prune I M).shape = shapeOf t I M m := by
  unfold shapeOf
  rw [← keep_pairs I M (wE_pair m)]
  rfl
theorem shape_Of_eq {t : Tape} {I M O : Nat} (h : TapeP t I M O) (hr : tape_Right t = some true) : ∃ m, Prs t I M O m ∧ shape_Of t = some (shapeOf t I M m, 0) ∧ (shapeOf t I M m).right = true := by
  have hl := opAll_len t I M
  have ho := outAll_len t (I + M) O
  have o1 := h.o1
  have o2 := h.o2
  have m2 := h.m2
  have hlen : (opAll t I M ++ outAll t (I + M) O).length ≤ 2000 := by rw [List.length_append]; omega
  obtain ⟨m, c1, c2, c3, c4⟩ := compact_sorted (l := opAll t I M ++ outAll t (I + M) O) (by omega)
  have hm : Prs t I M O m := ⟨fun p => by rw [c4 p, mem_pairs h], c2, by omega⟩
  have R := g0_rgr h hm
  have K := g0_ok h hm
  have Rp := R.prune
  have Kp : ((g0 t m).prune I M).Ok 1 := Ok.filter K _
  have s1 := graph_Prune_eq R K (by decide)
  have s2 := shape_From_eq (n := 1) (by decide) Kp
  rw [if_pos Rp.right, g0_shape] at s2
  have s3 := right_shape Rp.right
  rw [g0_shape] at s3
  refine ⟨m, hm, ?_, s3⟩
  have hne : (opAll t I M ++ outAll t (I + M) O).isEmpty = false := by
    rw [List.isEmpty_eq_false_iff]
    intro e
    have := congrArg List.length e
    rw [List.length_append, ho] at this
    simp only [List.length_nil] at this
    omega
  have hb : Nat.ble (opAll t I M ++ outAll t (I + M) O).length 4000000000 = true := Nat.ble_eq_true_of_le (by omega)
  have hs : sortH_m (opAll t I M ++ outAll t (I + M) O) = some (sortH (opAll t I M ++ outAll t (I + M) O)) := by
    unfold sortH_m
    rw [hne, hb]
    rfl
  unfold shape_Of
  rw [hr, Option.bind_some, Bool.not_true, cond_false, shape_pairs_eq h, Option.bind_some]
  simp only [caseS]
  rw [hs, Option.bind_some, c1, Option.bind_some, Of_l (by have := hm.len; omega), Option.bind_some]
  show (graph_Prune (g0 t m)).bind _ = _
  rw [s1, Option.bind_some, s2, Option.bind_some]
end Go.Ab.M
end

section
/-
  PLAIN LAW: WHETHER ANY TAPE IS RIGHT, by the program and by the document.
-/
namespace Go.Ab.M
open Go.Proofs Go.Ab
set_option linter.unusedVariables false
set_option linter.unusedSimpArgs false

def constB (x : Rat) : Bool := isR x && (decide (((ndig (qR x).num.natAbs : Nat) : Int) ≤ 40) && decide (((ndig (qR x).den : Nat) : Int) ≤ 40))
theorem big_dec {v : Nat} (h : v < 4294967296 ^ 6) : v < 10 ^ 60 := Nat.lt_of_lt_of_le h (by decide)
theorem num_len {x : Rat} (h : okL 6 x) (hr : isR x = true) : (natW (qR x).num.natAbs).length ≤ 6 ∧ (natW (qR x).den).length ≤ 6 ∧ (qR x).num.natAbs < 10 ^ 60 ∧ (qR x).den < 10 ^ 60 ∧ x.Num = natW (qR x).num.natAbs ∧ x.Den = natW (qR x).den := by
  have e := ofR_of_isR h.1 h.2.1 hr
  have s := h.sz (by decide)
  have e1 : x.Num = natW (qR x).num.natAbs := congrArg Rat.Num e
  have e2 : x.Den = natW (qR x).den := congrArg Rat.Den e
  exact ⟨by rw [← e1]; exact h.2.2.1, by rw [← e2]; exact h.2.2.2, big_dec s.1, big_dec s.2, e1, e2⟩
theorem constant_any {x : Rat} (h : okL 6 x) : tape_constant x = some (constB x) := by
  have hr : ratio_Right x = some (isR x) := ratio_Right_eq ⟨h.1, h.2.1, by have := h.2.2.1; omega, by have := h.2.2.2; omega⟩
  unfold tape_constant constB
  rw [hr, Option.bind_some]
  cases hi : isR x with
  | false => rfl
  | true =>
    obtain ⟨l1, l2, v1, v2, e1, e2⟩ := num_len h hi
    rw [cond_true, e1, e2, deci_Digits_eq v1 (by omega) (by omega), deci_Digits_eq v2 (by omega) (by omega), Option.bind_some, Option.bind_some, Bool.true_and]
    cases decide (((ndig (qR x).num.natAbs : Nat) : Int) ≤ 40) <;> rfl
theorem empty_any (x : Rat) : tape_empty x = some (decide (x = noR)) := by
  obtain ⟨g, n, d⟩ := x
  unfold tape_empty
  cases g with
  | true =>
    have : ¬ (Rat.mk true n d = noR) := fun h => by cases h
    rw [decide_eq_false this]; rfl
  | false =>
    cases n with
    | cons a n =>
      have : ¬ (Rat.mk false (a :: n) d = noR) := fun h => by cases h
      have e : ((((a :: n).length : Nat) : Int) == 0) = false := by rw [beq_eq_false_iff_ne, List.length_cons]; omega
      rw [decide_eq_false this]
      simp only [Bool.not_false, cond_true, e, cond_false]
    | nil =>
      cases d with
      | nil => rfl
      | cons a d =>
        have : ¬ (Rat.mk false [] (a :: d) = noR) := fun h => by cases h
        have e : ((((a :: d).length : Nat) : Int) == 0) = false := by rw [beq_eq_false_iff_ne, List.length_cons]; omega
        have e0 : (((([] : List Int).length : Nat) : Int) == 0) = true := rfl
        rw [decide_eq_false this]
        simp only [Bool.not_false, cond_true, e, e0]
def zP (o : TOp) : Prop := (o.Code = 1 ∧ o.A_ = 0 ∧ o.B_ = 0 ∧ o.Exp = 0) ∨ (2 ≤ o.Code ∧ o.Code ≤ 5 ∧ o.Num = noR ∧ o.Exp = 0) ∨ (o.Code = 6 ∧ o.Num = noR ∧ o.B_ = 0 ∧ o.Exp = 0) ∨ (o.Code = 7 ∧ o.Num = noR ∧ o.B_ = 0)
instance (o : TOp) : Decidable (zP o) := by unfold zP; infer_instance
def fP (o : TOp) : Prop := zP o ∧ (o.Code = 1 → constB o.Num = true) ∧ -20 ≤ o.Exp ∧ o.Exp ≤ 20
instance (o : TOp) : Decidable (fP o) := by unfold fP; infer_instance
theorem bne_z (n : Int) : (n != 0) = !decide (n = 0) := by
  by_cases h : n = 0
  · rw [h]; rfl
  · rw [decide_eq_false h]; exact bne_iff_ne.2 h
theorem beq_d (n k : Int) : (n == k) = decide (n = k) := by
  by_cases h : n = k
  · rw [h, decide_eq_true rfl, beq_self_eq_true]
  · rw [decide_eq_false h, beq_eq_false_iff_ne]; exact h
theorem dec_of {p : Prop} [Decidable p] {b : Bool} (h : b = true ↔ p) : some b = some (decide p) := by
  congr 1
  rw [Bool.eq_iff_iff, h, decide_eq_true_eq]
/-- the tail that all codes share -/
theorem tail_any (o : TOp) (x : Rat) : ((tape_empty x).bind fun x0 => bif x0 then bif decide (o.Exp ≥ (-20)) then bif decide (o.Exp ≤ 20) then bif o.Code != 7 then some true else some (o.B_ == 0) else some false else some false else some false) =
    some (decide (x = noR ∧ -20 ≤ o.Exp ∧ o.Exp ≤ 20 ∧ (o.Code = 7 → o.B_ = 0))) := by
  rw [empty_any, Option.bind_some]
  by_cases h1 : x = noR
  · rw [decide_eq_true h1, cond_true]
    by_cases h2 : o.Exp ≥ -20
    · rw [decide_eq_true h2, cond_true]
      by_cases h3 : o.Exp ≤ 20
      · rw [decide_eq_true h3, cond_true]
        by_cases h4 : o.Code = 7
        · have e : (o.Code != 7) = false := by rw [h4]; rfl
          rw [e, cond_false]
          refine dec_of ?_
          rw [beq_iff_eq]
          exact ⟨fun h => ⟨h1, h2, h3, fun _ => h⟩, fun h => h.2.2.2 h4⟩
        · have e : (o.Code != 7) = true := bne_iff_ne.2 h4
          rw [e, cond_true]
          exact dec_of ⟨fun _ => ⟨h1, h2, h3, fun h => absurd h h4⟩, fun _ => rfl⟩
      · rw [decide_eq_false h3, cond_false]
        exact dec_of ⟨fun h => (by cases h), fun h => absurd h.2.2.1 h3⟩
    · rw [decide_eq_false h2, cond_false]
      exact dec_of ⟨fun h => (by cases h), fun h => absurd h.2.1 h2⟩
  · rw [decide_eq_false h1, cond_false]
    exact dec_of ⟨fun h => (by cases h), fun h => absurd h.1 h1⟩
theorem exp_any {o : TOp} {p q : Prop} [Decidable p] [Decidable q] (h : o.Exp = 0 → (p ↔ q)) (h' : o.Exp ≠ 0 → ¬ q) : (bif o.Exp != 0 then some false else some (decide p)) = some (decide q) := by
  rw [bne_z]
  by_cases e : o.Exp = 0
  · rw [decide_eq_true e, Bool.not_true, cond_false]
    exact dec_of (by rw [decide_eq_true_eq]; exact h e)
  · rw [decide_eq_false e, Bool.not_false, cond_true]
    exact dec_of ⟨fun h => (by cases h), fun hq => absurd hq (h' e)⟩
theorem fields_any {o : TOp} (h : okL 6 o.Num) : tape_fields o = some (decide (fP o)) := by
  unfold tape_fields
  simp only [tail_any]
  rw [beq_d o.Code 1, beq_d o.Code 2, beq_d o.Code 3, beq_d o.Code 4, beq_d o.Code 5, beq_d o.Code 6, beq_d o.Code 7]
  by_cases c1 : o.Code = 1
  · rw [decide_eq_true c1, cond_true, constant_any h, Option.bind_some]
    cases hc : constB o.Num with
    | false =>
      refine dec_of ⟨fun h => (by cases h), fun hf => ?_⟩
      have := hf.2.1 c1
      rw [hc] at this
      exact this
    | true =>
      simp only [Bool.not_true, cond_false, bne_z]
      by_cases ha : o.A_ = 0
      · rw [decide_eq_true ha, Bool.not_true, cond_false]
        by_cases hb : o.B_ = 0
        · rw [decide_eq_true hb, Bool.not_true, cond_false, ← bne_z]
          refine exp_any (fun he => ?_) fun he hf => ?_
          · unfold fP zP
            constructor
            · intro _
              exact ⟨.inl ⟨c1, ha, hb, he⟩, fun _ => hc, by omega, by omega⟩
            · intro _
              exact ⟨by trivial, by omega, by omega, fun _ => hb⟩
          · rcases hf.1 with q | q | q | q <;> omega
        · rw [decide_eq_false hb, Bool.not_false, cond_true]
          refine dec_of ⟨fun h => (by cases h), fun hf => ?_⟩
          rcases hf.1 with q | q | q | q <;> omega
      · rw [decide_eq_false ha, Bool.not_false, cond_true]
        refine dec_of ⟨fun h => (by cases h), fun hf => ?_⟩
        rcases hf.1 with q | q | q | q <;> omega
  rw [decide_eq_false c1, cond_false]
  by_cases c6 : o.Code = 6
  · rw [decide_eq_true c6, cond_true, bne_z]
    by_cases hb : o.B_ = 0
    · rw [decide_eq_true hb, Bool.not_true, cond_false]
      refine exp_any (fun he => ?_) fun he hf => ?_
      · unfold fP zP
        constructor
        · rintro ⟨q1, q2, q3, q4⟩
          exact ⟨.inr (.inr (.inl ⟨c6, q1, hb, he⟩)), fun q => absurd q c1, q2, q3⟩
        · rintro ⟨q, _, q2, q3⟩
          rcases q with q | q | q | q
          · omega
          · omega
          · exact ⟨q.2.1, q2, q3, fun _ => hb⟩
          · omega
      · rcases hf.1 with q | q | q | q <;> omega
    · rw [decide_eq_false hb, Bool.not_false, cond_true]
      refine dec_of ⟨fun h => (by cases h), fun hf => ?_⟩
      rcases hf.1 with q | q | q | q <;> omega
  rw [decide_eq_false c6, cond_false]
  have mid : 2 ≤ o.Code → o.Code ≤ 5 → (bif o.Exp != 0 then some false else some (decide (o.Num = noR ∧ -20 ≤ o.Exp ∧ o.Exp ≤ 20 ∧ (o.Code = 7 → o.B_ = 0)))) = some (decide (fP o)) := fun h2 h5 => by
    refine exp_any (fun he => ?_) fun he hf => ?_
    · unfold fP zP
      constructor
      · rintro ⟨q1, q2, q3, q4⟩
        exact ⟨.inr (.inl ⟨h2, h5, q1, he⟩), fun q => absurd q c1, q2, q3⟩
      · rintro ⟨q, _, q2, q3⟩
        rcases q with q | q | q | q
        · omega
        · exact ⟨q.2.2.1, q2, q3, fun q => by omega⟩
        · omega
        · omega
    · rcases hf.1 with q | q | q | q <;> omega
  by_cases c2 : o.Code = 2
  · rw [decide_eq_true c2, cond_true, mid (by omega) (by omega)]
  rw [decide_eq_false c2, cond_false]
  by_cases c3 : o.Code = 3
  · rw [decide_eq_true c3, cond_true, mid (by omega) (by omega)]
  rw [decide_eq_false c3, cond_false]
  by_cases c4 : o.Code = 4
  · rw [decide_eq_true c4, cond_true, mid (by omega) (by omega)]
  rw [decide_eq_false c4, cond_false]
  by_cases c5 : o.Code = 5
  · rw [decide_eq_true c5, cond_true, mid (by omega) (by omega)]
  rw [decide_eq_false c5, cond_false]
  by_cases c7 : o.Code = 7
  · rw [decide_eq_true c7, cond_true]
    refine dec_of ?_
    rw [decide_eq_true_eq]
    unfold fP zP
    constructor
    · rintro ⟨q1, q2, q3, q4⟩
      exact ⟨.inr (.inr (.inr ⟨c7, q1, q4 c7⟩)), fun q => absurd q c1, q2, q3⟩
    · rintro ⟨q, _, q2, q3⟩
      rcases q with q | q | q | q
      · omega
      · omega
      · omega
      · exact ⟨q.2.1, q2, q3, fun _ => q.2.2⟩
  rw [decide_eq_false c7, cond_false]
  refine dec_of ⟨fun h => (by cases h), fun hf => ?_⟩
  rcases hf.1 with q | q | q | q <;> omega
theorem zero_any {o : TOp} (h : okL 6 o.Num) : ref14_zero o = some (decide (zP o)) := by
  have he := ref08_Equal_eq (x := o.Num) (y := noR) (by have := h.2.2.1; omega) (by have := h.2.2.2; omega)
  unfold ref14_zero
  rw [he, Option.bind_some]
  simp only [beq_d, Bool.cond_decide]
  unfold zP
  by_cases c1 : o.Code = 1
  · rw [if_pos c1]
    by_cases ha : o.A_ = 0
    · rw [if_pos ha]
      by_cases hb : o.B_ = 0
      · rw [if_pos hb]
        refine dec_of ?_
        rw [decide_eq_true_eq]
        exact ⟨fun q => .inl ⟨c1, ha, hb, q⟩, fun q => by rcases q with q | q | q | q <;> omega⟩
      · rw [if_neg hb]
        exact dec_of ⟨fun q => (by cases q), fun q => by rcases q with q | q | q | q <;> omega⟩
    · rw [if_neg ha]
      exact dec_of ⟨fun q => (by cases q), fun q => by rcases q with q | q | q | q <;> omega⟩
  rw [if_neg c1]
  by_cases hn : o.Num = noR
  · simp only [if_pos hn]
    by_cases c6 : o.Code = 6
    · have g1 : ¬ o.Code ≤ 5 := by omega
      have g2 : o.Code ≥ 2 := by omega
      simp only [if_pos g2, if_neg g1, if_pos c6]
      by_cases hb : o.B_ = 0
      · rw [if_pos hb]
        refine dec_of ?_
        rw [decide_eq_true_eq]
        exact ⟨fun q => .inr (.inr (.inl ⟨c6, hn, hb, q⟩)), fun q => by rcases q with q | q | q | q <;> omega⟩
      · rw [if_neg hb]
        exact dec_of ⟨fun q => (by cases q), fun q => by rcases q with q | q | q | q <;> omega⟩
    · by_cases c7 : o.Code = 7
      · have g1 : ¬ o.Code ≤ 5 := by omega
        have g2 : o.Code ≥ 2 := by omega
        simp only [if_pos g2, if_neg g1, if_neg c6, if_pos c7]
        refine dec_of ?_
        rw [decide_eq_true_eq]
        exact ⟨fun q => .inr (.inr (.inr ⟨c7, hn, q⟩)), fun q => by rcases q with q | q | q | q <;> omega⟩
      · by_cases g2 : o.Code ≥ 2
        · by_cases g1 : o.Code ≤ 5
          · simp only [if_pos g2, if_pos g1]
            refine dec_of ?_
            rw [decide_eq_true_eq]
            exact ⟨fun q => .inr (.inl ⟨g2, g1, hn, q⟩), fun q => by rcases q with q | q | q | q <;> omega⟩
          · simp only [if_pos g2, if_neg g1, if_neg c6, if_neg c7]
            exact dec_of ⟨fun q => (by cases q), fun q => by rcases q with q | q | q | q <;> omega⟩
        · simp only [if_neg g2, if_neg c6, if_neg c7]
          exact dec_of ⟨fun q => (by cases q), fun q => by rcases q with q | q | q | q <;> omega⟩
  · simp only [if_neg hn, ite_self]
    refine dec_of ⟨fun q => (by cases q), fun q => ?_⟩
    rcases q with q | q | q | q
    · omega
    · exact absurd q.2.2.1 hn
    · exact absurd q.2.1 hn
    · exact absurd q.2.1 hn
def plP (o : TOp) (n : Nat) : Prop := 0 ≤ o.A_ ∧ o.A_ < (n : Int) ∧ 0 ≤ o.B_ ∧ o.B_ < (n : Int)
instance (o : TOp) (n : Nat) : Decidable (plP o n) := by unfold plP; infer_instance
def wtP (o : TOp) (w : List Int) : Int := if o.Code = 1 then 1 else if o.Code ≤ 5 then nth w o.A_.toNat + nth w o.B_.toNat else if o.Code = 7 then nth w o.A_.toNat * max 1 (o.Exp.natAbs : Int) else nth w o.A_.toNat
def okP (o : TOp) (w : List Int) : Prop := fP o ∧ (o.Code = 1 ∨ plP o w.length) ∧ wtP o w ≤ 200
instance (o : TOp) (w : List Int) : Decidable (okP o w) := by unfold okP; infer_instance
def Wb (w : List Int) : Prop := ∀ i, i < w.length → 1 ≤ nth w i ∧ nth w i ≤ 200
theorem wt_bd {o : TOp} {w : List Int} (hw : Wb w) (hp : o.Code = 1 ∨ plP o w.length) (h1 : -20 ≤ o.Exp) (h2 : o.Exp ≤ 20) : 1 ≤ wtP o w ∧ wtP o w ≤ 4000 := by
  unfold wtP
  split
  · omega
  rename_i c
  obtain ⟨a1, a2, b1, b2⟩ := hp.resolve_left c
  have ba := hw o.A_.toNat (by omega)
  have bb := hw o.B_.toNat (by omega)
  split
  · omega
  split
  · have m2 : max 1 (o.Exp.natAbs : Int) ≤ 20 := by omega
    have m3 : 1 ≤ max 1 (o.Exp.natAbs : Int) := by omega
    have m4 : nth w o.A_.toNat * max 1 (o.Exp.natAbs : Int) ≤ 200 * 20 := Int.mul_le_mul ba.2 m2 (by omega) (by omega)
    have m5 : 1 * 1 ≤ nth w o.A_.toNat * max 1 (o.Exp.natAbs : Int) := Int.mul_le_mul ba.1 m3 (by omega) (by omega)
    omega
  · omega
/-- the program's weight of an op whose fields are as they may be -/
theorem weight_any {o : TOp} {w : List Int} (hw : Wb w) (hf : fP o) : ∃ p : Int × Bool, tape_weight o w = some p ∧ (p.2 = true ↔ okP o w) ∧ (okP o w → p.1 = wtP o w) := by
  have h1 := hf.2.2.1
  have h2 := hf.2.2.2
  unfold tape_weight
  simp only [beq_d, Bool.cond_decide]
  by_cases c1 : o.Code = 1
  · rw [if_pos c1]
    have hwt : wtP o w = 1 := by unfold wtP; rw [if_pos c1]
    exact ⟨_, rfl, ⟨fun _ => ⟨hf, .inl c1, by omega⟩, fun _ => rfl⟩, fun _ => hwt.symm⟩
  rw [if_neg c1]
  have no : ∀ p : Int × Bool, p.2 = false → ¬ plP o w.length → ∃ p', some p = some p' ∧ (p'.2 = true ↔ okP o w) ∧ (okP o w → p'.1 = wtP o w) := fun p hp hn =>
    ⟨p, rfl, ⟨fun h => (by rw [hp] at h; cases h), fun h => absurd (h.2.1.resolve_left c1) hn⟩, fun h => absurd (h.2.1.resolve_left c1) hn⟩
  by_cases a1 : o.A_ < 0
  · rw [if_pos a1]; exact no _ rfl fun h => by have := h.1; omega
  rw [if_neg a1]
  by_cases a2 : o.A_ ≥ (w.length : Int)
  · rw [if_pos a2]; exact no _ rfl fun h => by have := h.2.1; omega
  rw [if_neg a2]
  by_cases b1 : o.B_ < 0
  · rw [if_pos b1]; exact no _ rfl fun h => by have := h.2.2.1; omega
  rw [if_neg b1]
  by_cases b2 : o.B_ ≥ (w.length : Int)
  · rw [if_pos b2]; exact no _ rfl fun h => by have := h.2.2.2; omega
  rw [if_neg b2]
  have hp : plP o w.length := ⟨by omega, by omega, by omega, by omega⟩
  have bd := wt_bd hw (.inr hp) h1 h2
  have ba := hw o.A_.toNat (by omega)
  have bb := hw o.B_.toNat (by omega)
  have g1 : 0 ≤ o.A_ := by omega
  have g2 : o.A_.toNat < w.length := by omega
  have g3 : 0 ≤ o.B_ := by omega
  have g4 : o.B_.toNat < w.length := by omega
  have yes : ∀ n : Int, n = wtP o w → ∃ p', some (n, decide (n ≤ 200)) = some p' ∧ (p'.2 = true ↔ okP o w) ∧ (okP o w → p'.1 = wtP o w) := fun n hn => by
    subst hn
    exact ⟨_, rfl, by rw [decide_eq_true_eq]; exact ⟨fun h => ⟨hf, .inr hp, h⟩, fun h => h.2.2⟩, fun _ => rfl⟩
  rw [if_pos g1, if_pos g2]
  have add : o.Code ≤ 5 → ∃ p', (if 0 ≤ o.B_ then if o.B_.toNat < w.length then bif inK .i64 (nth w o.A_.toNat + nth w o.B_.toNat) then some (nth w o.A_.toNat + nth w o.B_.toNat, decide (nth w o.A_.toNat + nth w o.B_.toNat ≤ 200)) else none else none else none) = some p' ∧ (p'.2 = true ↔ okP o w) ∧ (okP o w → p'.1 = wtP o w) := fun h5 => by
    rw [if_pos g3, if_pos g4, inK_i64 (by omega) (by omega), cond_true]
    exact yes _ (by unfold wtP; rw [if_neg c1, if_pos h5])
  by_cases c2 : o.Code = 2
  · rw [if_pos c2]; exact add (by omega)
  rw [if_neg c2]
  by_cases c3 : o.Code = 3
  · rw [if_pos c3]; exact add (by omega)
  rw [if_neg c3]
  by_cases c4 : o.Code = 4
  · rw [if_pos c4]; exact add (by omega)
  rw [if_neg c4]
  by_cases c5 : o.Code = 5
  · rw [if_pos c5]; exact add (by omega)
  rw [if_neg c5]
  have h5 : ¬ o.Code ≤ 5 := by
    rcases hf.1 with q | q | q | q <;> omega
  by_cases c7 : o.Code = 7
  · have mx : mxI 1 (o.Exp.natAbs : Int) = max 1 (o.Exp.natAbs : Int) := by rw [mxI_eq]; split <;> omega
    have hwt : wtP o w = nth w o.A_.toNat * max 1 (o.Exp.natAbs : Int) := by unfold wtP; rw [if_neg c1, if_neg h5, if_pos c7]
    rw [if_pos c7, tape_abs_eq (by omega) (by omega), Option.bind_some, mx, ← hwt, inK_i64 (by omega) (by omega), cond_true]
    exact yes _ rfl
  · rw [if_neg c7]
    exact yes _ (by unfold wtP; rw [if_neg c1, if_neg h5, if_neg c7])
/-- the document's -/
theorem weight14_any {o : TOp} {w : List Int} (hw : Wb w) (hk : okL 6 o.Num) : ∃ n : Int, ref14_weight o w = some n ∧ (okP o w ↔ ¬ n < 0 ∧ ¬ n > 200) ∧ (okP o w → n = wtP o w) := by
  have no : ¬ okP o w → ∃ n : Int, some (-1 : Int) = some n ∧ (okP o w ↔ ¬ n < 0 ∧ ¬ n > 200) ∧ (okP o w → n = wtP o w) := fun h => ⟨-1, rfl, ⟨fun q => absurd q h, fun q => absurd (by decide) q.1⟩, fun q => absurd q h⟩
  unfold ref14_weight
  rw [zero_any hk, Option.bind_some]
  by_cases hz : ¬ zP o
  · rw [decide_eq_false hz, Bool.not_false, cond_true]
    exact no fun q => hz q.1.1
  have hz := Decidable.not_not.1 hz
  rw [decide_eq_true hz, Bool.not_true, cond_false]
  simp only [beq_d, Bool.cond_decide]
  by_cases c1 : o.Code = 1
  · have he : o.Exp = 0 := by rcases hz with q | q | q | q <;> omega
    have hr := ref08_Right_eq hk (by decide) (by decide)
    rw [if_pos c1, hr, Option.bind_some]
    have hc : okP o w → constB o.Num = true := fun q => q.1.2.1 c1
    cases hi : isR o.Num with
    | false =>
      refine no fun q => ?_
      have := hc q
      unfold constB at this
      rw [hi] at this
      cases this
    | true =>
      obtain ⟨l1, l2, v1, v2, e1, e2⟩ := num_len hk hi
      obtain ⟨p1, d1, s1⟩ := ref06_Print_size v1 (by omega) (by omega)
      obtain ⟨p2, d2, s2⟩ := ref06_Print_size v2 (by omega) (by omega)
      rw [← e1] at d1
      rw [← e2] at d2
      rw [Bool.not_true, cond_false, d1, Option.bind_some, s1]
      by_cases k1 : ((ndig (qR o.Num).num.natAbs : Nat) : Int) > 40
      · rw [if_pos k1]
        refine no fun q => ?_
        have := hc q
        unfold constB at this
        rw [decide_eq_false (by omega), hi] at this
        cases this
      rw [if_neg k1, d2, Option.bind_some, s2]
      by_cases k2 : ((ndig (qR o.Num).den : Nat) : Int) > 40
      · rw [if_pos k2]
        refine no fun q => ?_
        have := hc q
        unfold constB at this
        rw [decide_eq_false (show ¬ ((ndig (qR o.Num).den : Nat) : Int) ≤ 40 by omega), Bool.and_false, Bool.and_false] at this
        cases this
      rw [if_neg k2]
      have hcb : constB o.Num = true := by
        unfold constB
        rw [hi, decide_eq_true (by omega), decide_eq_true (by omega)]
        rfl
      have hwt : wtP o w = 1 := by unfold wtP; rw [if_pos c1]
      have hok : okP o w := ⟨⟨hz, fun _ => hcb, by omega, by omega⟩, .inl c1, by omega⟩
      exact ⟨1, rfl, ⟨fun _ => by decide, fun _ => hok⟩, fun _ => hwt.symm⟩
  rw [if_neg c1]
  by_cases a1 : o.A_ < 0
  · rw [if_pos a1]; exact no fun h => by have := (h.2.1.resolve_left c1).1; omega
  rw [if_neg a1]
  by_cases a2 : o.A_ ≥ (w.length : Int)
  · rw [if_pos a2]; exact no fun h => by have := (h.2.1.resolve_left c1).2.1; omega
  rw [if_neg a2]
  by_cases b1 : o.B_ < 0
  · rw [if_pos b1]; exact no fun h => by have := (h.2.1.resolve_left c1).2.2.1; omega
  rw [if_neg b1]
  by_cases b2 : o.B_ ≥ (w.length : Int)
  · rw [if_pos b2]; exact no fun h => by have := (h.2.1.resolve_left c1).2.2.2; omega
  rw [if_neg b2]
  by_cases x1 : o.Exp < -20
  · rw [if_pos x1]; exact no fun h => by have := h.1.2.2.1; omega
  rw [if_neg x1]
  by_cases x2 : o.Exp > 20
  · rw [if_pos x2]; exact no fun h => by have := h.1.2.2.2; omega
  rw [if_neg x2]
  have hf : fP o := ⟨hz, fun q => absurd q c1, by omega, by omega⟩
  have hp : plP o w.length := ⟨by omega, by omega, by omega, by omega⟩
  have bd := wt_bd hw (.inr hp) (by omega) (by omega)
  have ba := hw o.A_.toNat (by omega)
  have bb := hw o.B_.toNat (by omega)
  have g1 : 0 ≤ o.A_ := by omega
  have g2 : o.A_.toNat < w.length := by omega
  have g3 : 0 ≤ o.B_ := by omega
  have g4 : o.B_.toNat < w.length := by omega
  have yes : ∀ n : Int, n = wtP o w → ∃ n', some n = some n' ∧ (okP o w ↔ ¬ n' < 0 ∧ ¬ n' > 200) ∧ (okP o w → n' = wtP o w) := fun n hn => by
    subst hn
    exact ⟨_, rfl, ⟨fun h => ⟨by omega, by have := h.2.2; omega⟩, fun h => ⟨hf, .inr hp, by omega⟩⟩, fun _ => rfl⟩
  rw [if_pos g1, if_pos g2]
  by_cases h5 : o.Code ≤ 5
  · have c7 : ¬ o.Code = 7 := by omega
    rw [if_pos h5, if_pos g3, if_pos g4, inK_i64 (by omega) (by omega), cond_true, if_neg c7, if_neg c7]
    exact yes _ (by unfold wtP; rw [if_neg c1, if_pos h5])
  rw [if_neg h5]
  by_cases c7 : o.Code = 7
  · have hwt : wtP o w = nth w o.A_.toNat * max 1 (o.Exp.natAbs : Int) := by unfold wtP; rw [if_neg c1, if_neg h5, if_pos c7]
    simp only [if_pos c7]
    by_cases y1 : o.Exp < 0
    · have y2 : ¬ o.Exp > 0 := by omega
      have e : (0 - o.Exp) = max 1 (o.Exp.natAbs : Int) := by omega
      rw [if_pos y1, inK_i64 (by omega) (by omega), cond_true, e, ← hwt, inK_i64 (by omega) (by omega), cond_true, if_neg y2]
      exact yes _ rfl
    · rw [if_neg y1]
      by_cases y2 : o.Exp > 0
      · have e : o.Exp = max 1 (o.Exp.natAbs : Int) := by omega
        have hwt' : nth w o.A_.toNat * o.Exp = wtP o w := by rw [hwt, ← e]
        rw [if_pos y2, hwt', inK_i64 (by omega) (by omega), cond_true]
        exact yes _ rfl
      · have e : max 1 (o.Exp.natAbs : Int) = 1 := by omega
        rw [if_neg y2]
        exact yes _ (by rw [hwt, e, Int.mul_one])
  · simp only [if_neg c7]
    exact yes _ (by unfold wtP; rw [if_neg c1, if_neg h5, if_neg c7])
/-! ### the loops -/
theorem Wb.snoc {w : List Int} (h : Wb w) {n : Int} (h1 : 1 ≤ n) (h2 : n ≤ 200) : Wb (w ++ [n]) := fun i hi => by
  rw [List.length_append, List.length_singleton] at hi
  by_cases c : i < w.length
  · rw [nth_app c]; exact h i c
  · obtain rfl : i = w.length := by omega
    rw [nth_snoc]; exact ⟨h1, h2⟩
theorem wl_any {t : Tape} (hk : ∀ i, i < t.Ops.length → okL 6 (nth t.Ops i).Num) (hM : t.Ops.length ≤ 1000) {I : Nat} (hI : I ≤ 1000) : ∀ (d i : Nat) (w : List Int) (n : Nat), i + d = t.Ops.length → d < n → w.length = I + i → Wb w →
    ∃ r : Unit ⊕ List Int, loopN (fun σ : List Int × Nat => tape_weights_l_2_rd t σ.1 σ.2) n (w, i) = some r ∧ loopN (fun σ : List Int × Nat => ref14_Weights_l_2_rd t σ.1 σ.2) n (w, i) = some r ∧
      ∀ w', r = .inr w' → w'.length = I + t.Ops.length ∧ ∀ j, i ≤ j → j < t.Ops.length → fP (nth t.Ops j) ∧ ((nth t.Ops j).Code = 1 ∨ plP (nth t.Ops j) (I + j))
  | 0, i, w, n, hi, hn, hl, hw => by
    obtain ⟨n, rfl⟩ : ∃ m, n = m + 1 := ⟨n - 1, by omega⟩
    have g1 : ¬ ((i : Nat) : Int) < (t.Ops.length : Int) := by omega
    have e1 : tape_weights_l_2_rd t w i = some (.inr (.inr w)) := by simp only [tape_weights_l_2_rd, Bool.cond_decide, if_neg g1]
    have e2 : ref14_Weights_l_2_rd t w i = some (.inr (.inr w)) := by simp only [ref14_Weights_l_2_rd, Bool.cond_decide, if_neg g1]
    refine ⟨.inr w, ?_, ?_, fun w' h => ?_⟩
    · simp only [loopN, e1, Option.bind_some, caseS_inr]
    · simp only [loopN, e2, Option.bind_some, caseS_inr]
    · cases h
      exact ⟨by omega, fun j h1 h2 => by omega⟩
  | d + 1, i, w, n, hi, hn, hl, hw => by
    obtain ⟨n, rfl⟩ : ∃ m, n = m + 1 := ⟨n - 1, by omega⟩
    have hil : i < t.Ops.length := by omega
    have g1 : ((i : Nat) : Int) < (t.Ops.length : Int) := by omega
    have k := hk i hil
    have ef := fields_any k
    obtain ⟨m, em, m1, m2⟩ := weight14_any hw k
    by_cases hok : okP (nth t.Ops i) w
    · obtain ⟨p, ep, p1, p2⟩ := weight_any hw hok.1
      have bd := wt_bd hw hok.2.1 hok.1.2.2.1 hok.1.2.2.2
      have hwt := hok.2.2
      have hm := m1.1 hok
      have em2 := m2 hok
      subst em2
      have g3 : w.length + 1 ≤ 2147483648 := by omega
      have e1 : tape_weights_l_2_rd t w i = some (.inl (w ++ [wtP (nth t.Ops i) w], i + 1)) := by
        simp (disch := omega) only [tape_weights_l_2_rd, Bool.cond_decide, if_pos g1, if_pos hil, ef, Option.bind_some, decide_eq_true hok.1, Bool.not_true, cond_false, ep, p1.2 hok, p2 hok, if_pos g3, inK_i64, cond_true]
      have e2 : ref14_Weights_l_2_rd t w i = some (.inl (w ++ [wtP (nth t.Ops i) w], i + 1)) := by
        simp (disch := omega) only [ref14_Weights_l_2_rd, Bool.cond_decide, if_pos g1, if_pos hil, em, Option.bind_some, if_neg hm.1, if_neg hm.2, if_pos g3, inK_i64, cond_true]
      obtain ⟨r, r1, r2, r3⟩ := wl_any hk hM hI d (i + 1) (w ++ [wtP (nth t.Ops i) w]) n (by omega) (by omega) (by rw [List.length_append, List.length_singleton]; omega) (hw.snoc bd.1 hwt)
      refine ⟨r, ?_, ?_, fun w' h => ?_⟩
      · simp only [loopN, e1, Option.bind_some, caseS_inl]; exact r1
      · simp only [loopN, e2, Option.bind_some, caseS_inl]; exact r2
      · obtain ⟨q1, q2⟩ := r3 w' h
        refine ⟨q1, fun j h1 h2 => ?_⟩
        by_cases c : j = i
        · subst c
          exact ⟨hok.1, by rw [← hl]; exact hok.2.1⟩
        · exact q2 j (by omega) h2
    · have e1 : tape_weights_l_2_rd t w i = some (.inr (.inl ())) := by
        by_cases hf : fP (nth t.Ops i)
        · obtain ⟨p, ep, p1, p2⟩ := weight_any hw hf
          have hp : p.2 = false := by
            cases h : p.2 with
            | false => rfl
            | true => exact absurd (p1.1 h) hok
          simp only [tape_weights_l_2_rd, Bool.cond_decide, if_pos g1, if_pos hil, ef, Option.bind_some, decide_eq_true hf, Bool.not_true, cond_false, ep, hp, Bool.not_false, cond_true]
        · simp only [tape_weights_l_2_rd, Bool.cond_decide, if_pos g1, if_pos hil, ef, Option.bind_some, decide_eq_false hf, Bool.not_false, cond_true]
      have e2 : ref14_Weights_l_2_rd t w i = some (.inr (.inl ())) := by
        by_cases h1 : m < 0
        · simp only [ref14_Weights_l_2_rd, Bool.cond_decide, if_pos g1, if_pos hil, em, Option.bind_some, if_pos h1]
        · have h2 : m > 200 := by
            by_cases h2 : m > 200
            · exact h2
            · exact absurd (m1.2 ⟨h1, h2⟩) hok
          simp only [ref14_Weights_l_2_rd, Bool.cond_decide, if_pos g1, if_pos hil, em, Option.bind_some, if_neg h1, if_pos h2]
      refine ⟨.inl (), ?_, ?_, fun w' h => by cases h⟩
      · simp only [loopN, e1, Option.bind_some, caseS_inr]
      · simp only [loopN, e2, Option.bind_some, caseS_inr]
theorem outs_any {t : Tape} (w : List Int) (hO : t.Outs.length ≤ 1000) : tape_weights_l_5 t w 0 = some (if (List.range t.Outs.length).all (fun i => decide (0 ≤ nth t.Outs i) && decide (nth t.Outs i < (w.length : Int))) = true then .inr () else .inl ()) ∧
    ref14_Weights_l_5 t w 0 = some (if (List.range t.Outs.length).all (fun i => decide (0 ≤ nth t.Outs i) && decide (nth t.Outs i < (w.length : Int))) = true then .inr () else .inl ()) := by
  obtain ⟨p, hp⟩ : ∃ p : Nat → Bool, p = fun i => decide (0 ≤ nth t.Outs i) && decide (nth t.Outs i < (w.length : Int)) := ⟨_, rfl⟩
  have pt : ∀ i, p i = true → ¬ nth t.Outs i < 0 ∧ ¬ nth t.Outs i ≥ (w.length : Int) := fun i h => by
    rw [hp] at h
    simp only [Bool.and_eq_true, decide_eq_true_eq] at h
    omega
  have pf : ∀ i, p i = false → nth t.Outs i < 0 ∨ (¬ nth t.Outs i < 0 ∧ nth t.Outs i ≥ (w.length : Int)) := fun i h => by
    rw [hp] at h
    simp only [Bool.and_eq_false_iff, decide_eq_false_iff_not] at h
    omega
  rw [← hp]
  constructor
  · unfold tape_weights_l_5
    refine loop_all (round := fun σ : Nat => tape_weights_l_5_rd t w σ) p t.Outs.length (.inr ()) (.inl ()) (fun i hi h => ?_) (fun i hi h => ?_) ?_ (by simp only [FU]; omega)
    · obtain ⟨q1, q2⟩ := pt i h
      have g1 : ((i : Nat) : Int) < (t.Outs.length : Int) := by omega
      simp (disch := omega) only [tape_weights_l_5_rd, Bool.cond_decide, if_pos g1, if_pos hi, if_neg q1, if_neg q2, inK_i64, cond_true]
    · have g1 : ((i : Nat) : Int) < (t.Outs.length : Int) := by omega
      rcases pf i h with q | ⟨q1, q2⟩
      · simp only [tape_weights_l_5_rd, Bool.cond_decide, if_pos g1, if_pos hi, if_pos q]
      · simp only [tape_weights_l_5_rd, Bool.cond_decide, if_pos g1, if_pos hi, if_neg q1, if_pos q2]
    · have g1 : ¬ ((t.Outs.length : Nat) : Int) < (t.Outs.length : Int) := by omega
      simp only [tape_weights_l_5_rd, Bool.cond_decide, if_neg g1]
  · unfold ref14_Weights_l_5
    refine loop_all (round := fun σ : Nat => ref14_Weights_l_5_rd t w σ) p t.Outs.length (.inr ()) (.inl ()) (fun i hi h => ?_) (fun i hi h => ?_) ?_ (by simp only [FU]; omega)
    · obtain ⟨q1, q2⟩ := pt i h
      have g1 : ((i : Nat) : Int) < (t.Outs.length : Int) := by omega
      simp (disch := omega) only [ref14_Weights_l_5_rd, Bool.cond_decide, if_pos g1, if_pos hi, if_neg q1, if_neg q2, inK_i64, cond_true]
    · have g1 : ((i : Nat) : Int) < (t.Outs.length : Int) := by omega
      rcases pf i h with q | ⟨q1, q2⟩
      · simp only [ref14_Weights_l_5_rd, Bool.cond_decide, if_pos g1, if_pos hi, if_pos q]
      · simp only [ref14_Weights_l_5_rd, Bool.cond_decide, if_pos g1, if_pos hi, if_neg q1, if_pos q2]
    · have g1 : ¬ ((t.Outs.length : Nat) : Int) < (t.Outs.length : Int) := by omega
      simp only [ref14_Weights_l_5_rd, Bool.cond_decide, if_neg g1]
theorem tapeP_of {t : Tape} {I : Nat} (hI : t.Ins = (I : Int)) (i1 : 1 ≤ I) (i2 : I ≤ 40) (m2 : t.Ops.length ≤ 400) (o1 : 1 ≤ t.Outs.length) (o2 : t.Outs.length ≤ 40)
    (hops : ∀ j, 0 ≤ j → j < t.Ops.length → fP (nth t.Ops j) ∧ ((nth t.Ops j).Code = 1 ∨ plP (nth t.Ops j) (I + j)))
    (houts : (List.range t.Outs.length).all (fun i => decide (0 ≤ nth t.Outs i) && decide (nth t.Outs i < ((I + t.Ops.length : Nat) : Int))) = true) : TapeP t I t.Ops.length t.Outs.length := by
  refine ⟨hI, i1, i2, rfl, m2, rfl, o1, o2, fun i hi => ?_, fun i hi hc => ?_, fun i hi hc h5 => ?_, fun r hr => ?_⟩
  · have := (hops i (Nat.zero_le _) hi).1.1
    rcases this with q | q | q | q <;> omega
  · obtain ⟨a1, a2, _, _⟩ := (hops i (Nat.zero_le _) hi).2.resolve_left hc
    exact ⟨(nth t.Ops i).A_.toNat, by omega, by omega⟩
  · obtain ⟨_, _, b1, b2⟩ := (hops i (Nat.zero_le _) hi).2.resolve_left hc
    exact ⟨(nth t.Ops i).B_.toNat, by omega, by omega⟩
  · have := List.all_eq_true.1 houts r (by simpa using hr)
    simp only [Bool.and_eq_true, decide_eq_true_eq] at this
    exact ⟨(nth t.Outs r).toNat, by omega, by omega⟩
/-- ANY TAPE IS RIGHT BY BOTH, OR BY NONE -/
theorem Right_any {t : Tape} (hk : ∀ i, i < t.Ops.length → okL 6 (nth t.Ops i).Num) : (tape_Right t = some false ∧ ref14_Right t = some false) ∨ (tape_Right t = some true ∧ ref14_Right t = some true ∧ ∃ I, TapeP t I t.Ops.length t.Outs.length) := by
  unfold tape_Right ref14_Right tape_weights ref14_Weights
  simp only [Bool.cond_decide]
  have z0 : decide (((([] : List Int).length : Nat) : Int) > 0) = false := rfl
  by_cases g1 : t.Ins < 1
  · left; rw [if_pos g1, if_pos g1]; exact ⟨rfl, rfl⟩
  rw [if_neg g1, if_neg g1]
  by_cases g2 : t.Ins > 40
  · left; rw [if_pos g2, if_pos g2]; exact ⟨rfl, rfl⟩
  rw [if_neg g2, if_neg g2]
  by_cases g3 : ((t.Outs.length : Nat) : Int) < 1
  · left; rw [if_pos g3, if_pos g3]; exact ⟨rfl, rfl⟩
  rw [if_neg g3, if_neg g3]
  by_cases g4 : ((t.Outs.length : Nat) : Int) > 40
  · left; rw [if_pos g4, if_pos g4]; exact ⟨rfl, rfl⟩
  rw [if_neg g4, if_neg g4]
  by_cases g5 : ((t.Ops.length : Nat) : Int) > 400
  · left; rw [if_pos g5, if_pos g5]; exact ⟨rfl, rfl⟩
  rw [if_neg g5, if_neg g5]
  obtain ⟨I, hI⟩ : ∃ I : Nat, t.Ins = (I : Int) := ⟨t.Ins.toNat, by omega⟩
  have e1 : (List.replicate I (1 : Int)).isEmpty = false := by
    cases I with
    | zero => omega
    | succ n => rfl
  have hw : Wb (List.replicate I (1 : Int)) := fun i hi => by
    rw [nth_get hi, List.getElem_replicate]; omega
  obtain ⟨r, r1, r2, r3⟩ := wl_any hk (by omega) (I := I) (by omega) t.Ops.length 0 (List.replicate I 1) FU (by omega) (by simp only [FU]; omega) (by rw [List.length_replicate]; omega) hw
  have l1 : tape_weights_l_2 t (List.replicate I 1) 0 = some r := r1
  have l2 : ref14_Weights_l_2 t (List.replicate I 1) 0 = some r := r2
  rw [weights_l_eq hI (by omega), Weights_l_eq hI (by omega), Option.bind_some, Option.bind_some, e1, cond_false, Bool.not_false, cond_true, cond_false, cond_true, l1, l2, Option.bind_some, Option.bind_some]
  cases r with
  | inl x => left; exact ⟨rfl, rfl⟩
  | inr w =>
    obtain ⟨q1, q2⟩ := r3 w rfl
    obtain ⟨o1, o2⟩ := outs_any (t := t) w (by omega)
    simp only [caseS]
    rw [o1, o2, Option.bind_some, Option.bind_some, q1]
    by_cases ha : (List.range t.Outs.length).all (fun i => decide (0 ≤ nth t.Outs i) && decide (nth t.Outs i < ((I + t.Ops.length : Nat) : Int))) = true
    · right
      have g : ((w.length : Nat) : Int) > 0 := by omega
      rw [if_pos ha]
      refine ⟨rfl, ?_, I, tapeP_of hI (by omega) (by omega) (by omega) (by omega) (by omega) q2 ha⟩
      simp only [Option.bind_some, decide_eq_true g]
    · left
      rw [if_neg ha]
      exact ⟨rfl, rfl⟩
end Go.Ab.M
end

section
/-
  PLAIN LAW: A TAPE's SHAPE, by the document.
-/
namespace Go.Ab.M
open Go.Proofs Go.Ab
set_option linter.unusedVariables false
set_option linter.unusedSimpArgs false

instance (o : TOp) (v : Nat) : Decidable (usesP o v) := by unfold usesP; infer_instance
def depB (t : Tape) (I M : Nat) (a b : Nat) : Bool := if b < I then false else if b < I + M then decide (usesP (nth t.Ops (b - I)) a) else decide (nth t.Outs (b - I - M) = (a : Int))
theorem depB_iff {t : Tape} {I M O : Nat} {a b : Nat} (hb : b < I + M + O) : depB t I M a b = true ↔ dep t I M O a b := by
  unfold depB dep
  by_cases c1 : b < I
  · rw [if_pos c1]
    constructor
    · intro h; cases h
    · rintro (⟨i, hi, e, _⟩ | ⟨r, hr, e, _⟩) <;> omega
  rw [if_neg c1]
  by_cases c2 : b < I + M
  · rw [if_pos c2, decide_eq_true_eq]
    constructor
    · intro h
      exact .inl ⟨b - I, by omega, by omega, h⟩
    · rintro (⟨i, hi, e, hu⟩ | ⟨r, hr, e, _⟩)
      · rw [show b - I = i by omega]; exact hu
      · omega
  · rw [if_neg c2, decide_eq_true_eq]
    constructor
    · intro h
      exact .inr ⟨b - I - M, by omega, by omega, h⟩
    · rintro (⟨i, hi, e, hu⟩ | ⟨r, hr, e, hu⟩)
      · omega
      · rw [show b - I - M = r by omega]; exact hu
theorem made_eq {t : Tape} {I M O : Nat} (h : TapeP t I M O) {a b : Nat} (hb : b < I + M + O) : ref22_made t (a : Int) (b : Int) = some (depB t I M a b) := by
  have hI := h.ins
  have hM := h.ops
  have hO := h.outs
  have i2 := h.i2
  have m2 := h.m2
  have o2 := h.o2
  unfold ref22_made depB
  rw [hI, inK_i64 (by omega) (by omega), cond_true]
  simp only [Bool.cond_decide, beq_d]
  by_cases c1 : b < I
  · have g1 : (b : Int) - (I : Int) < 0 := by omega
    rw [if_pos g1, if_pos c1]
  have g1 : ¬ (b : Int) - (I : Int) < 0 := by omega
  rw [if_neg g1, if_neg c1]
  by_cases c2 : b < I + M
  · have g2 : ¬ (b : Int) - (I : Int) ≥ (t.Ops.length : Int) := by omega
    have g3 : (0 : Int) ≤ (b : Int) - (I : Int) := by omega
    have t1 : ((b : Int) - (I : Int)).toNat = b - I := by omega
    have g4 : b - I < t.Ops.length := by omega
    have hc := h.code (b - I) (by omega)
    rw [if_neg g2, if_pos g3, t1, if_pos g4, if_pos c2]
    generalize nth t.Ops (b - I) = o at hc ⊢
    by_cases k2 : o.Code ≥ 2
    · rw [if_pos k2, if_pos k2]
      by_cases ka : o.A_ = (a : Int)
      · rw [if_pos ka]
        exact dec_of ⟨fun _ => ⟨by omega, .inl ka⟩, fun _ => rfl⟩
      · rw [if_neg ka]
        by_cases k5 : o.Code ≤ 5
        · rw [if_pos k5]
          refine dec_of ?_
          rw [decide_eq_true_eq]
          exact ⟨fun q => ⟨by omega, .inr ⟨k5, q⟩⟩, fun q => (q.2.resolve_left ka).2⟩
        · rw [if_neg k5]
          exact dec_of ⟨fun q => (by cases q), fun q => absurd (q.2.resolve_left ka).1 k5⟩
    · rw [if_neg k2, if_neg k2]
      exact dec_of ⟨fun q => (by cases q), fun q => absurd (by omega) q.1⟩
  · have g2 : (b : Int) - (I : Int) ≥ (t.Ops.length : Int) := by omega
    have g3 : (0 : Int) ≤ (b : Int) - (I : Int) - (t.Ops.length : Int) := by omega
    have t1 : ((b : Int) - (I : Int) - (t.Ops.length : Int)).toNat = b - I - M := by omega
    have g4 : b - I - M < t.Outs.length := by omega
    rw [if_pos g2, inK_i64 (by omega) (by omega), cond_true, if_pos g3, t1, if_pos g4, if_neg c2]
theorem reach_l1 {t : Tape} {I M O : Nat} (h : TapeP t I M O) {F : Tape → Int → Bool → Option Bool} {f : Nat → Bool} {v : Nat} (hv : v < I + M + O) (hF : ∀ u, u < I + M + O → depB t I M u v = true → F t (u : Int) true = some (f u)) :
    ref22_reaches_l t (v : Int) true F 0 = some (if (List.range (I + M + O)).all (fun u => !(depB t I M u v && f u)) = true then .inr () else .inl ()) := by
  have hI := h.ins
  have hM := h.ops
  have hO := h.outs
  have i2 := h.i2
  have m2 := h.m2
  have o2 := h.o2
  unfold ref22_reaches_l
  refine loop_all (round := fun σ : Nat => ref22_reaches_l_rd t (v : Int) true F σ) (fun u => !(depB t I M u v && f u)) (I + M + O) (.inr ()) (.inl ()) (fun i hi hp => ?_) (fun i hi hp => ?_) ?_ (by simp only [FU]; omega)
  · have g1 : ((i : Nat) : Int) < t.Ins + (t.Ops.length : Int) + (t.Outs.length : Int) := by omega
    cases hd : depB t I M i v with
    | false => simp (disch := omega) only [ref22_reaches_l_rd, Bool.cond_decide, if_pos g1, made_eq h hv, made_eq h hi, hd, Option.bind_some, cond_true, cond_false, inK_i64]
    | true =>
      rw [hd] at hp
      have hf : f i = false := by cases hq : f i with
        | false => rfl
        | true => rw [hq] at hp; cases hp
      simp (disch := omega) only [ref22_reaches_l_rd, Bool.cond_decide, if_pos g1, made_eq h hv, made_eq h hi, hd, hF i hi hd, hf, Option.bind_some, cond_true, cond_false, inK_i64]
  · have g1 : ((i : Nat) : Int) < t.Ins + (t.Ops.length : Int) + (t.Outs.length : Int) := by omega
    cases hd : depB t I M i v with
    | false => rw [hd] at hp; cases hp
    | true =>
      rw [hd] at hp
      have hf : f i = true := by cases hq : f i with
        | true => rfl
        | false => rw [hq] at hp; cases hp
      simp (disch := omega) only [ref22_reaches_l_rd, Bool.cond_decide, if_pos g1, made_eq h hv, made_eq h hi, hd, hF i hi hd, hf, Option.bind_some, cond_true, cond_false, inK_i64]
  · have g1 : ¬ ((I + M + O : Nat) : Int) < t.Ins + (t.Ops.length : Int) + (t.Outs.length : Int) := by omega
    simp only [ref22_reaches_l_rd, Bool.cond_decide, if_neg g1]
theorem reach_l2 {t : Tape} {I M O : Nat} (h : TapeP t I M O) {F : Tape → Int → Bool → Option Bool} {f : Nat → Bool} {v : Nat} (hv : v < I + M + O) (hF : ∀ u, u < I + M + O → depB t I M v u = true → F t (u : Int) false = some (f u)) :
    ref22_reaches_l t (v : Int) false F 0 = some (if (List.range (I + M + O)).all (fun u => !(depB t I M v u && f u)) = true then .inr () else .inl ()) := by
  have hI := h.ins
  have hM := h.ops
  have hO := h.outs
  have i2 := h.i2
  have m2 := h.m2
  have o2 := h.o2
  unfold ref22_reaches_l
  refine loop_all (round := fun σ : Nat => ref22_reaches_l_rd t (v : Int) false F σ) (fun u => !(depB t I M v u && f u)) (I + M + O) (.inr ()) (.inl ()) (fun i hi hp => ?_) (fun i hi hp => ?_) ?_ (by simp only [FU]; omega)
  · have g1 : ((i : Nat) : Int) < t.Ins + (t.Ops.length : Int) + (t.Outs.length : Int) := by omega
    cases hd : depB t I M v i with
    | false => simp (disch := omega) only [ref22_reaches_l_rd, Bool.cond_decide, if_pos g1, made_eq h hi, hd, Option.bind_some, cond_true, cond_false, inK_i64]
    | true =>
      rw [hd] at hp
      have hf : f i = false := by cases hq : f i with
        | false => rfl
        | true => rw [hq] at hp; cases hp
      simp (disch := omega) only [ref22_reaches_l_rd, Bool.cond_decide, if_pos g1, made_eq h hi, hd, hF i hi hd, hf, Option.bind_some, cond_true, cond_false, inK_i64]
  · have g1 : ((i : Nat) : Int) < t.Ins + (t.Ops.length : Int) + (t.Outs.length : Int) := by omega
    cases hd : depB t I M v i with
    | false => rw [hd] at hp; cases hp
    | true =>
      rw [hd] at hp
      have hf : f i = true := by cases hq : f i with
        | true => rfl
        | false => rw [hq] at hp; cases hp
      simp (disch := omega) only [ref22_reaches_l_rd, Bool.cond_decide, if_pos g1, made_eq h hi, hd, hF i hi hd, hf, Option.bind_some, cond_true, cond_false, inK_i64]
  · have g1 : ¬ ((I + M + O : Nat) : Int) < t.Ins + (t.Ops.length : Int) + (t.Outs.length : Int) := by omega
    simp only [ref22_reaches_l_rd, Bool.cond_decide, if_neg g1]
/-- a graph whose edges are what is made of what -/
def Deps (g : Graph) (t : Tape) (I M O : Nat) : Prop := ∀ a b : Nat, (∃ w, w ∈ g.Edges ∧ w.From = (a : Int) ∧ w.To = (b : Int)) ↔ dep t I M O a b
theorem any_ins {g : Graph} {t : Tape} {I M O : Nat} (h : TapeP t I M O) (R : RGr g I M O) (hd : Deps g t I M O) (f : Nat → Bool) {v : Nat} (hv : v < I + M + O) :
    ((g.ins (v : Int)).any fun w => f w.From.toNat) = !((List.range (I + M + O)).all fun u => !(depB t I M u v && f u)) := by
  rw [Bool.eq_iff_iff, List.any_eq_true, Bool.not_eq_true', ← Bool.not_eq_true, List.all_eq_true]
  constructor
  · rintro ⟨w, hw, hf⟩ hall
    obtain ⟨hw, e⟩ := gmem_ins hw
    have hr := R.e w hw
    have := hall w.From.toNat (List.mem_range.2 (by omega))
    have d := (depB_iff (a := w.From.toNat) hv).2 ((hd _ _).1 ⟨w, hw, by omega, e⟩)
    rw [d, hf] at this
    cases this
  · intro hn
    refine Classical.byContradiction fun hno => hn fun u hu => ?_
    cases hdu : depB t I M u v with
    | false => rfl
    | true =>
      cases hf : f u with
      | false => rfl
      | true =>
        obtain ⟨w, hw, e1, e2⟩ := (hd u v).2 ((depB_iff hv).1 hdu)
        exact absurd ⟨w, by unfold Graph.ins; rw [List.mem_filter, beq_iff_eq]; exact ⟨hw, e2⟩, by rw [e1, Int.toNat_natCast]; exact hf⟩ hno
theorem any_outs {g : Graph} {t : Tape} {I M O : Nat} (h : TapeP t I M O) (R : RGr g I M O) (hd : Deps g t I M O) (f : Nat → Bool) {v : Nat} (hv : v < I + M + O) :
    ((g.outs (v : Int)).any fun w => f w.To.toNat) = !((List.range (I + M + O)).all fun u => !(depB t I M v u && f u)) := by
  rw [Bool.eq_iff_iff, List.any_eq_true, Bool.not_eq_true', ← Bool.not_eq_true, List.all_eq_true]
  constructor
  · rintro ⟨w, hw, hf⟩ hall
    obtain ⟨hw, e⟩ := gmem_outs hw
    have hr := R.e w hw
    have := hall w.To.toNat (List.mem_range.2 (by omega))
    have d := (depB_iff (a := v) (b := w.To.toNat) (t := t) (I := I) (M := M) (O := O) (by omega)).2 ((hd _ _).1 ⟨w, hw, e, by omega⟩)
    rw [d, hf] at this
    cases this
  · intro hn
    refine Classical.byContradiction fun hno => hn fun u hu => ?_
    have hu' : u < I + M + O := List.mem_range.1 hu
    cases hdu : depB t I M v u with
    | false => rfl
    | true =>
      cases hf : f u with
      | false => rfl
      | true =>
        obtain ⟨w, hw, e1, e2⟩ := (hd v u).2 ((depB_iff hu').1 hdu)
        exact absurd ⟨w, by unfold Graph.outs; rw [List.mem_filter, beq_iff_eq]; exact ⟨hw, e1⟩, by rw [e2, Int.toNat_natCast]; exact hf⟩ hno
theorem bool_case {b : Bool} : (caseS (if b = true then (.inr () : Unit ⊕ Unit) else .inl ()) (fun _ => some true) (fun _ => some false)) = some (!b) := by
  cases b <;> rfl
theorem st_back {t : Tape} {I M O : Nat} (h : TapeP t I M O) {F : Tape → Int → Bool → Option Bool} {v : Nat} : ref22_reaches_st F t (v : Int) true = if v < I then some true else (ref22_reaches_l t (v : Int) true F 0).bind fun y_ => caseS y_ (fun x0 => some true) (fun x1 => some false) := by
  have hI := h.ins
  have hM := h.ops
  have hO := h.outs
  have i2 := h.i2
  have m2 := h.m2
  have o2 := h.o2
  unfold ref22_reaches_st
  rw [inK_i64 (by omega) (by omega), cond_true, inK_i64 (by omega) (by omega), cond_true, cond_true, Bool.cond_decide, hI]
  by_cases c : v < I
  · have g : (v : Int) < (I : Int) := by omega
    rw [if_pos g, if_pos c]
  · have g : ¬ (v : Int) < (I : Int) := by omega
    rw [if_neg g, if_neg c]
    rfl
theorem st_on {t : Tape} {I M O : Nat} (h : TapeP t I M O) {F : Tape → Int → Bool → Option Bool} {v : Nat} : ref22_reaches_st F t (v : Int) false = if I + M ≤ v then some true else (ref22_reaches_l t (v : Int) false F 0).bind fun y_ => caseS y_ (fun x0 => some true) (fun x1 => some false) := by
  have hI := h.ins
  have hM := h.ops
  have hO := h.outs
  have i2 := h.i2
  have m2 := h.m2
  have o2 := h.o2
  unfold ref22_reaches_st
  rw [inK_i64 (by omega) (by omega), cond_true, inK_i64 (by omega) (by omega), cond_true, cond_false, Bool.not_false, cond_true, cond_true, Bool.cond_decide]
  by_cases c : I + M ≤ v
  · have g : (v : Int) ≥ t.Ins + (t.Ops.length : Int) := by omega
    rw [if_pos g, if_pos c]
  · have g : ¬ (v : Int) ≥ t.Ins + (t.Ops.length : Int) := by omega
    rw [if_neg g, if_neg c]
theorem reach_back {g : Graph} {t : Tape} {I M O : Nat} (h : TapeP t I M O) (R : RGr g I M O) (hd : Deps g t I M O) : ∀ (n v : Nat), v < n → v < I + M + O → ref22_reaches_n n t (v : Int) true = some (fr I g.E v)
  | 0, v, hv, _ => by omega
  | n + 1, v, hv, hv2 => by
    show ref22_reaches_st (ref22_reaches_n n) t (v : Int) true = _
    rw [st_back h, fr_last R]
    by_cases c : v < I
    · rw [if_pos c, decide_eq_true c, Bool.true_or]
    · rw [if_neg c, decide_eq_false c, Bool.false_or, any_ins h R hd (fr I g.E) hv2, reach_l1 h hv2 (f := fr I g.E) fun u hu hdu => ?_, Option.bind_some, bool_case]
      have := dep_lt h ((depB_iff hv2).1 hdu)
      exact reach_back h R hd n u (by omega) hu
theorem reach_on {g : Graph} {t : Tape} {I M O : Nat} (h : TapeP t I M O) (R : RGr g I M O) (hd : Deps g t I M O) : ∀ (n v : Nat), I + M + O < n + v → v < I + M + O → ref22_reaches_n n t (v : Int) false = some (to_ (I + M) g.E v)
  | 0, v, hv, hv2 => by omega
  | n + 1, v, hv, hv2 => by
    show ref22_reaches_st (ref22_reaches_n n) t (v : Int) false = _
    rw [st_on h, to_first R]
    by_cases c : I + M ≤ v
    · rw [if_pos c, decide_eq_true c, Bool.true_or]
    · rw [if_neg c, decide_eq_false c, Bool.false_or, any_outs h R hd (to_ (I + M) g.E) hv2, reach_l2 h hv2 (f := to_ (I + M) g.E) fun u hu hdu => ?_, Option.bind_some, bool_case]
      have := dep_lt h ((depB_iff hu).1 hdu)
      exact reach_on h R hd n u (by omega) hu
/-! ### the list -/
def rowF (c : Nat → Nat → Bool) (I a : Nat) : Nat → List Pair
  | 0 => []
  | k + 1 => rowF c I a k ++ (if c a (I + k) = true then [⟨(a : Int), ((I + k : Nat) : Int)⟩] else [])
def allF (c : Nat → Nat → Bool) (I K : Nat) : Nat → List Pair
  | 0 => []
  | k + 1 => allF c I K k ++ rowF c I k K
theorem rowF_len (c : Nat → Nat → Bool) (I a : Nat) : ∀ k, (rowF c I a k).length ≤ k
  | 0 => Nat.le_refl _
  | k + 1 => by
    have := rowF_len c I a k
    unfold rowF
    rw [List.length_append]
    split
    · simp only [List.length_singleton]; omega
    · simp only [List.length_nil]; omega
theorem allF_len (c : Nat → Nat → Bool) (I K : Nat) : ∀ k, (allF c I K k).length ≤ k * K
  | 0 => Nat.zero_le _
  | k + 1 => by
    have := allF_len c I K k
    have := rowF_len c I k K
    unfold allF
    rw [List.length_append, Nat.add_mul]; omega
theorem mem_rowF {c : Nat → Nat → Bool} {I a : Nat} {p : Pair} : ∀ {k : Nat}, p ∈ rowF c I a k ↔ ∃ j, j < k ∧ c a (I + j) = true ∧ p = ⟨(a : Int), ((I + j : Nat) : Int)⟩
  | 0 => ⟨fun h => (by cases h), fun ⟨_, h, _⟩ => by omega⟩
  | k + 1 => by
    unfold rowF
    rw [List.mem_append, mem_rowF]
    constructor
    · rintro (⟨j, h1, h2⟩ | h)
      · exact ⟨j, by omega, h2⟩
      · split at h
        · rename_i hc
          exact ⟨k, by omega, hc, List.mem_singleton.1 h⟩
        · cases h
    · rintro ⟨j, h1, h2, h3⟩
      by_cases e : j < k
      · exact .inl ⟨j, e, h2, h3⟩
      · obtain rfl : j = k := by omega
        right
        rw [if_pos h2, h3]
        exact List.mem_singleton.2 rfl
theorem mem_allF {c : Nat → Nat → Bool} {I K : Nat} {p : Pair} : ∀ {k : Nat}, p ∈ allF c I K k ↔ ∃ a, a < k ∧ p ∈ rowF c I a K
  | 0 => ⟨fun h => (by cases h), fun ⟨_, h, _⟩ => by omega⟩
  | k + 1 => by
    unfold allF
    rw [List.mem_append, mem_allF]
    constructor
    · rintro (⟨j, h1, h2⟩ | h)
      · exact ⟨j, by omega, h2⟩
      · exact ⟨k, by omega, h⟩
    · rintro ⟨j, h1, h2⟩
      by_cases e : j < k
      · exact .inl ⟨j, e, h2⟩
      · obtain rfl : j = k := by omega
        exact .inr h2
theorem rowF_sorted (c : Nat → Nat → Bool) (I a : Nat) : ∀ k, (rowF c I a k).Pairwise pLt
  | 0 => List.Pairwise.nil
  | k + 1 => by
    unfold rowF
    rw [List.pairwise_append]
    refine ⟨rowF_sorted c I a k, ?_, fun x hx y hy => ?_⟩
    · split
      · exact List.pairwise_singleton _ _
      · exact List.Pairwise.nil
    · split at hy
      · obtain ⟨j, h1, _, rfl⟩ := mem_rowF.1 hx
        rw [List.mem_singleton.1 hy]
        exact .inr ⟨rfl, by show ((I + j : Nat) : Int) < ((I + k : Nat) : Int); omega⟩
      · cases hy
theorem allF_sorted (c : Nat → Nat → Bool) (I K : Nat) : ∀ k, (allF c I K k).Pairwise pLt
  | 0 => List.Pairwise.nil
  | k + 1 => by
    unfold allF
    rw [List.pairwise_append]
    refine ⟨allF_sorted c I K k, rowF_sorted c I k K, fun x hx y hy => ?_⟩
    obtain ⟨a, h1, h2⟩ := mem_allF.1 hx
    obtain ⟨j, _, _, rfl⟩ := mem_rowF.1 h2
    obtain ⟨j', _, _, rfl⟩ := mem_rowF.1 hy
    exact .inl (by show (a : Int) < (k : Int); omega)
/-- is it a pair on a way? -/
def cOf (g : Graph) (t : Tape) (I M : Nat) (a b : Nat) : Bool := depB t I M a b && (fr I g.E a && to_ (I + M) g.E b)
theorem Of_l2 {g : Graph} {t : Tape} {I M O : Nat} (h : TapeP t I M O) (R : RGr g I M O) (hd : Deps g t I M O) {a : Nat} (ha : a < I + M) {o : List Pair} (ho : o.length ≤ 1000000000) :
    ref22_Of_l_2 t a t.Ins o = some (o ++ rowF (cOf g t I M) I a (M + O)) := by
  have hI := h.ins
  have hM := h.ops
  have hO := h.outs
  have i2 := h.i2
  have m2 := h.m2
  have o2 := h.o2
  have e0 : (t.Ins, o) = (fun k : Nat => (((I + k : Nat) : Int), o ++ rowF (cOf g t I M) I a k)) 0 := by
    show (t.Ins, o) = (((I + 0 : Nat) : Int), o ++ [])
    rw [List.append_nil, Nat.add_zero, hI]
  unfold ref22_Of_l_2
  rw [e0]
  refine loop_run (round := fun σ : Int × List Pair => ref22_Of_l_2_rd t a σ.1 σ.2) (fun k : Nat => (((I + k : Nat) : Int), o ++ rowF (cOf g t I M) I a k)) (M + O) (fun k hk => ?_) ?_ (by simp only [FU]; omega)
  · have hl := rowF_len (cOf g t I M) I a k
    have hb : I + k < I + M + O := by omega
    have g1 : ((I + k : Nat) : Int) < t.Ins + (t.Ops.length : Int) + (t.Outs.length : Int) := by omega
    have g2 : (o ++ rowF (cOf g t I M) I a k).length + 1 ≤ 2147483648 := by rw [List.length_append]; omega
    have r1 : ref22_reaches t (a : Int) true = some (fr I g.E a) := reach_back h R hd FU a (by simp only [FU]; omega) (by omega)
    have r2 : ref22_reaches t ((I + k : Nat) : Int) false = some (to_ (I + M) g.E (I + k)) := reach_on h R hd FU (I + k) (by simp only [FU]; omega) hb
    have eN : ((I + k : Nat) : Int) + 1 = ((I + (k + 1) : Nat) : Int) := by omega
    have st : rowF (cOf g t I M) I a (k + 1) = rowF (cOf g t I M) I a k ++ (if cOf g t I M a (I + k) = true then [⟨(a : Int), ((I + k : Nat) : Int)⟩] else []) := rfl
    dsimp only
    rw [st]
    unfold cOf
    cases c1 : depB t I M a (I + k) with
    | false =>
      rw [Bool.false_and, if_neg Bool.false_ne_true, List.append_nil]
      simp (disch := omega) only [ref22_Of_l_2_rd, Bool.cond_decide, if_pos g1, made_eq h hb, c1, Option.bind_some, cond_false, cond_true, inK_i64, eN]
    | true =>
      cases c2 : fr I g.E a with
      | false =>
        rw [Bool.false_and, Bool.and_false, if_neg Bool.false_ne_true, List.append_nil]
        simp (disch := omega) only [ref22_Of_l_2_rd, Bool.cond_decide, if_pos g1, made_eq h hb, c1, r1, c2, Option.bind_some, cond_false, cond_true, inK_i64, eN]
      | true =>
        cases c3 : to_ (I + M) g.E (I + k) with
        | false =>
          rw [Bool.and_false, Bool.and_false, if_neg Bool.false_ne_true, List.append_nil]
          simp (disch := omega) only [ref22_Of_l_2_rd, Bool.cond_decide, if_pos g1, made_eq h hb, c1, r1, c2, r2, c3, Option.bind_some, cond_false, cond_true, inK_i64, eN]
        | true =>
          rw [Bool.and_true, Bool.and_true, if_pos rfl, ← List.append_assoc]
          unfold cOf at g2
          simp (disch := omega) only [ref22_Of_l_2_rd, Bool.cond_decide, if_pos g1, made_eq h hb, c1, r1, c2, r2, c3, Option.bind_some, cond_true, if_pos g2, inK_i64, eN]
  · have g1 : ¬ ((I + (M + O) : Nat) : Int) < t.Ins + (t.Ops.length : Int) + (t.Outs.length : Int) := by omega
    simp (disch := omega) only [ref22_Of_l_2_rd, Bool.cond_decide, if_neg g1, inK_i64, cond_true]
theorem Of_l1 {g : Graph} {t : Tape} {I M O : Nat} (h : TapeP t I M O) (R : RGr g I M O) (hd : Deps g t I M O) : ref22_Of_l t 0 [] = some (allF (cOf g t I M) I (M + O) (I + M)) := by
  have hI := h.ins
  have hM := h.ops
  have hO := h.outs
  have i2 := h.i2
  have m2 := h.m2
  have o2 := h.o2
  unfold ref22_Of_l
  refine loop_run (round := fun σ : Nat × List Pair => ref22_Of_l_rd t σ.1 σ.2) (fun k : Nat => (k, allF (cOf g t I M) I (M + O) k)) (I + M) (fun k hk => ?_) ?_ (by simp only [FU]; omega)
  · have hl := allF_len (cOf g t I M) I (M + O) k
    have hm : k * (M + O) ≤ 440 * 440 := Nat.mul_le_mul (by omega) (by omega)
    have g1 : ((k : Nat) : Int) < t.Ins + (t.Ops.length : Int) := by omega
    have r := Of_l2 h R hd hk (o := allF (cOf g t I M) I (M + O) k) (by omega)
    have st : allF (cOf g t I M) I (M + O) (k + 1) = allF (cOf g t I M) I (M + O) k ++ rowF (cOf g t I M) I k (M + O) := rfl
    dsimp only
    rw [st]
    simp (disch := omega) only [ref22_Of_l_rd, Bool.cond_decide, if_pos g1, r, Option.bind_some, inK_i64, cond_true]
  · have g1 : ¬ ((I + M : Nat) : Int) < t.Ins + (t.Ops.length : Int) := by omega
    simp (disch := omega) only [ref22_Of_l_rd, Bool.cond_decide, if_neg g1, inK_i64, cond_true]
theorem onW_g0 {t : Tape} {I M : Nat} (m : List Pair) (p : Pair) : onW I M m p = (fr I (g0 t m).E p.From.toNat && to_ (I + M) (g0 t m).E p.To.toNat) := by
  have e : (g0 t m).E.map ftOf = (m.map fun p => (⟨p.From.toNat, p.To.toNat, 0⟩ : PE)).map ftOf := by
    show ((m.map wE).map Edge.pe).map ftOf = _
    rw [List.map_map, List.map_map, List.map_map]
    rfl
  unfold onW fr to_
  rw [foldF_congr _ e, bkB_congr _ e]
theorem g0_deps {t : Tape} {I M O : Nat} {m : List Pair} (hm : Prs t I M O m) : Deps (g0 t m) t I M O := fun a b => by
  constructor
  · rintro ⟨w, hw, e1, e2⟩
    obtain ⟨p, hp, rfl⟩ := List.mem_map.1 hw
    obtain ⟨a', b', rfl, d⟩ := (hm.mem p).1 hp
    have e1 : (a' : Int) = (a : Int) := e1
    have e2 : (b' : Int) = (b : Int) := e2
    rw [Int.ofNat.inj e1, Int.ofNat.inj e2] at d
    exact d
  · intro d
    exact ⟨wE ⟨(a : Int), (b : Int)⟩, List.mem_map.2 ⟨_, (hm.mem _).2 ⟨a, b, rfl, d⟩, rfl⟩, rfl, rfl⟩
/-- WHAT THE DOCUMENT SAYS IS WHAT THE PROGRAM DOES -/
theorem ref22_Of_eq {t : Tape} {I M O : Nat} (h : TapeP t I M O) {m : List Pair} (hm : Prs t I M O m) (hr : ref14_Right t = some true) : ref22_Of t = some (shapeOf t I M m, 0) := by
  have R := g0_rgr h hm
  have e : allF (cOf (g0 t m) t I M) I (M + O) (I + M) = m.filter (onW I M m) := by
    refine pLt_uniq (allF_sorted _ _ _ _) (hm.srt.filter _) fun p => ?_
    rw [mem_allF, List.mem_filter, hm.mem p, onW_g0 (t := t)]
    constructor
    · rintro ⟨a, ha, hp⟩
      obtain ⟨j, hj, hc, rfl⟩ := mem_rowF.1 hp
      unfold cOf at hc
      rw [Bool.and_eq_true] at hc
      exact ⟨⟨a, I + j, rfl, (depB_iff (by omega)).1 hc.1⟩, hc.2⟩
    · rintro ⟨⟨a, b, rfl, d⟩, hw⟩
      have hlt := dep_lt h d
      refine ⟨a, by omega, mem_rowF.2 ⟨b - I, by omega, ?_, ?_⟩⟩
      · rw [show I + (b - I) = b by omega]
        unfold cOf
        rw [(depB_iff (by omega)).2 d, Bool.true_and]
        exact hw
      · rw [show I + (b - I) = b by omega]
  unfold ref22_Of
  rw [hr, Option.bind_some, Bool.not_true, cond_false, Of_l1 h R (g0_deps hm), Option.bind_some, e]
  rfl
end Go.Ab.M
end

section
/-
  PLAIN LAW: THE SHAPE OF ANY TAPE, AND OF ANY GRAPH, OR WHY THERE IS NONE, IS AS THE DOCUMENT SAYS.
-/
namespace Go.Ab.M
open Go.Proofs Go.Ab
set_option linter.unusedVariables false
set_option linter.unusedSimpArgs false

def RatIn (x : Rat) : Prop := True ∧ (x.Num.length ≤ maxLen ∧ ∀ z, z ∈ x.Num → inRange .u32 z) ∧ (x.Den.length ≤ maxLen ∧ ∀ z, z ∈ x.Den → inRange .u32 z)
theorem RatIn.ok {x : Rat} {n : Nat} (h : RatIn x) (k : x.Num.length ≤ n ∧ x.Den.length ≤ n) : okL n x :=
  ⟨fun z hz => ⟨(h.2.1.2 z hz).1, Int.lt_of_le_of_lt (h.2.1.2 z hz).2 (by decide)⟩, fun z hz => ⟨(h.2.2.2 z hz).1, Int.lt_of_le_of_lt (h.2.2.2 z hz).2 (by decide)⟩, k.1, k.2⟩
def GraphIn (g : Graph) : Prop := inRange .i64 g.Ins ∧ inRange .i64 g.Mids ∧ inRange .i64 g.Outs ∧ (g.Edges.length ≤ maxLen ∧ ∀ z, z ∈ g.Edges → inRange .i64 z.From ∧ inRange .i64 z.To ∧ RatIn z.W) ∧ (g.Gone.length ≤ maxLen ∧ ∀ z, z ∈ g.Gone → inRange .i64 z)
theorem GraphIn.ok {g : Graph} (h : GraphIn g) (hf : fewG g) : g.Ok 2 := by
  obtain ⟨f1, f2, f3, f4, f5, f6⟩ := hf
  exact ⟨fun i hi => (h.2.2.2.1.2 _ (nth_mem hi)).2.2.ok (f6 _ (nth_mem hi)), by omega, by omega⟩
def TapeIn (t : Tape) : Prop := inRange .i64 t.Ins ∧ (t.Ops.length ≤ maxLen ∧ ∀ z, z ∈ t.Ops → inRange .i64 z.Code ∧ inRange .i64 z.A_ ∧ inRange .i64 z.B_ ∧ inRange .i64 z.Exp ∧ RatIn z.Num) ∧ (t.Outs.length ≤ maxLen ∧ ∀ z, z ∈ t.Outs → inRange .i64 z)
theorem few14 (t : Tape) : ∃ b, ref14_Few t 8 = some b ∧ (b = true → t.Ops.length ≤ 8 ∧ ∀ i, i < t.Ops.length → (nth t.Ops i).Num.Num.length ≤ 6 ∧ (nth t.Ops i).Num.Den.length ≤ 6) := by
  unfold ref14_Few
  simp only [Bool.cond_decide]
  by_cases c1 : t.Ins > 8
  · rw [if_pos c1]; exact ⟨false, rfl, fun h => by cases h⟩
  rw [if_neg c1]
  by_cases c2 : ((t.Outs.length : Nat) : Int) > 8
  · rw [if_pos c2]; exact ⟨false, rfl, fun h => by cases h⟩
  rw [if_neg c2]
  by_cases c3 : ((t.Ops.length : Nat) : Int) > 8
  · rw [if_pos c3]; exact ⟨false, rfl, fun h => by cases h⟩
  rw [if_neg c3]
  have one : ∀ x : Rat, ref08_Few [x] 6 = some (decide (x.Num.length ≤ 6 ∧ x.Den.length ≤ 6)) := fun x => by
    have := Few_eq (l := [x]) (by simp) 6
    have e6 : ((6 : Nat) : Int) = 6 := rfl
    rw [e6] at this
    rw [this]
    congr 1
    rw [decide_eq_decide]
    exact ⟨fun h => h x (List.mem_singleton.2 rfl), fun h y hy => by rw [List.mem_singleton.1 hy]; exact h⟩
  obtain ⟨p, hp⟩ : ∃ p : Nat → Bool, p = fun i => decide ((nth t.Ops i).Num.Num.length ≤ 6 ∧ (nth t.Ops i).Num.Den.length ≤ 6) := ⟨_, rfl⟩
  have e : ref14_Few_l t 0 = some (if (List.range t.Ops.length).all p = true then .inr () else .inl ()) := by
    unfold ref14_Few_l
    refine loop_all (round := fun σ : Nat => ref14_Few_l_rd t σ) p t.Ops.length (.inr ()) (.inl ()) (fun i hi h => ?_) (fun i hi h => ?_) ?_ (by simp only [FU]; omega)
    · have g1 : ((i : Nat) : Int) < (t.Ops.length : Int) := by omega
      have o := one (nth t.Ops i).Num
      rw [show decide ((nth t.Ops i).Num.Num.length ≤ 6 ∧ (nth t.Ops i).Num.Den.length ≤ 6) = p i by rw [hp], h] at o
      simp (disch := omega) only [ref14_Few_l_rd, Bool.cond_decide, if_pos g1, if_pos hi, o, Option.bind_some, Bool.not_true, cond_false, inK_i64, cond_true]
    · have g1 : ((i : Nat) : Int) < (t.Ops.length : Int) := by omega
      have o := one (nth t.Ops i).Num
      rw [show decide ((nth t.Ops i).Num.Num.length ≤ 6 ∧ (nth t.Ops i).Num.Den.length ≤ 6) = p i by rw [hp], h] at o
      simp only [ref14_Few_l_rd, Bool.cond_decide, if_pos g1, if_pos hi, o, Option.bind_some, Bool.not_false, cond_true]
    · have g1 : ¬ ((t.Ops.length : Nat) : Int) < (t.Ops.length : Int) := by omega
      simp only [ref14_Few_l_rd, Bool.cond_decide, if_neg g1]
  rw [e, Option.bind_some]
  by_cases ha : (List.range t.Ops.length).all p = true
  · rw [if_pos ha]
    refine ⟨true, rfl, fun _ => ⟨by omega, fun i hi => ?_⟩⟩
    have := List.all_eq_true.1 ha i (by simpa using hi)
    rw [hp] at this
    exact of_decide_eq_true this
  · rw [if_neg ha]
    exact ⟨false, rfl, fun h => by cases h⟩
theorem ref22_From_eq {g : Graph} {n : Nat} (hg : g.Ok n) (hn0 : 0 < n) (hn : n ≤ 3000) : ref22_From g = some (if g.right = true then g.shape else Shape.mk 0 0 0 []) := by
  have he := hg.e
  have hl : ref22_From_l g 0 [] = some (g.Edges.map Edge.pair) := by
    unfold ref22_From_l
    have e0 : ∀ i, i ≤ g.Edges.length → ((g.Edges.take i).map Edge.pair).length = i := fun i hi => by rw [List.length_map, List.length_take]; omega
    have := loop_run (round := fun σ : Nat × List Pair => ref22_From_l_rd g σ.1 σ.2) (fun i => (i, (g.Edges.take i).map Edge.pair)) g.Edges.length (r := g.Edges.map Edge.pair) (fun i hi => ?_) ?_ (by simp only [FU]; omega)
    · exact this
    · have g1 : ((i : Nat) : Int) < (g.Edges.length : Int) := by omega
      have g3 : ((g.Edges.take i).map Edge.pair).length + 1 ≤ 2147483648 := by rw [e0 i (by omega)]; omega
      dsimp only
      rw [take_nth hi, List.map_append]
      simp (disch := omega) only [ref22_From_l_rd, Bool.cond_decide, if_pos g1, if_pos hi, if_pos g3, inK_i64, cond_true]
      rfl
    · have g1 : ¬ ((g.Edges.length : Nat) : Int) < (g.Edges.length : Int) := by omega
      simp only [ref22_From_l_rd, Bool.cond_decide, if_neg g1, List.take_length]
  unfold ref22_From
  rw [ref17_Right_eq hg hn0 hn, Option.bind_some]
  cases hr : g.right with
  | false =>
    rw [Bool.not_false, cond_true, if_neg Bool.false_ne_true]
  | true =>
    rw [Bool.not_true, cond_false, hl, Option.bind_some, if_pos rfl, Graph.shape]
theorem ShapeOf_true (t : Tape) (g : Graph) (ht : TapeIn t) (hg : GraphIn g) : law22_ShapeOf t g = some true := by
  unfold law22_ShapeOf
  rw [awake22, Option.bind_some]
  obtain ⟨b, hb, hf⟩ := few14 t
  rw [hb, Option.bind_some]
  cases b with
  | false => rfl
  | true =>
    obtain ⟨h8, h6⟩ := hf rfl
    rw [cond_true]
    by_cases few : ¬ fewG g
    · rw [(ref17_Few_eq g).2 few]; rfl
    have few := Classical.not_not.1 few
    have ok := hg.ok few
    have hk : ∀ i, i < t.Ops.length → okL 6 (nth t.Ops i).Num := fun i hi => (ht.2.1.2 _ (nth_mem hi)).2.2.2.2.ok (h6 i hi)
    have s1 := shape_From_eq (n := 2) (by decide) ok
    have s2 := ref22_From_eq ok (by decide) (by decide)
    have he := ok.e
    have s3 : ref22_Same (if g.right = true then g.shape else Shape.mk 0 0 0 []) (if g.right = true then g.shape else Shape.mk 0 0 0 []) = some true := by
      refine ref22_Same_eq _ ?_
      split
      · show (g.Edges.map Edge.pair).length ≤ 2000000
        rw [List.length_map]; omega
      · exact Nat.zero_le _
    rw [(ref17_Few_eq g).1 few, Option.bind_some, Bool.not_true, cond_false]
    have fin : ∀ (u : Shape × Int), u.1.All.length ≤ 2000000 → shape_Of t = some u → ref22_Of t = some u → ((shape_Of t).bind fun x3 => (ref22_Of t).bind fun x4 => bif true then bif x3.2 == x4.2 then (ref22_Same x3.1 x4.1).bind fun x5 => bif x5 then (shape_From g).bind fun x6 => (ref22_From g).bind fun x7 => (ref22_Same x6 x7).bind fun x8 => some x8 else some false else some false else some false) = some true := fun u hu e1 e2 => by
      rw [e1, e2, Option.bind_some, Option.bind_some, cond_true, BEq.rfl, cond_true, ref22_Same_eq _ hu, Option.bind_some, cond_true, s1, Option.bind_some, s2, Option.bind_some, s3]
      rfl
    rcases Right_any hk with ⟨r1, r2⟩ | ⟨r1, r2, I, h⟩
    · refine fin (Shape.mk 0 0 0 [], 1) (Nat.zero_le _) ?_ ?_
      · unfold shape_Of; rw [r1]; rfl
      · unfold ref22_Of; rw [r2]; rfl
    · obtain ⟨m, hm, e1, e2⟩ := shape_Of_eq h r1
      exact fin _ (Nat.le_trans (List.length_filter_le _ _) (by have := hm.len; omega)) e1 (ref22_Of_eq h hm r2)
end Go.Ab.M
end

section
/-
  ARGUMENTS AS TYPED DATA (printed by jot.py).
-/
namespace Go.Ab.M
open Go.Proofs Go.Proofs.YtpefcgiiigdcdaaGreat
set_option linter.unusedVariables false
def tyRat : Ty Tryz.prog 72 := Ty.as (Ty.struct Tryz.underlying72 (Flds.cons (Ty.bool Tryz.underlying4) rfl 1 (by kernel_rfl) (Flds.cons (Ty.slice Tryz.underlying70 (Ty.int .u32 Tryz.underlying166) (by decide +kernel) (fun _ => show 1 = _ by kernel_rfl)) rfl 1 (by kernel_rfl) (Flds.last (Ty.slice Tryz.underlying70 (Ty.int .u32 Tryz.underlying166) (by decide +kernel) (fun _ => show 1 = _ by kernel_rfl)) rfl (by kernel_rfl)))))
  (fun y => Rat.mk y.1 y.2.1 y.2.2) Rat.D (fun y => True ∧ (y.Num.length ≤ maxLen ∧ ∀ z, z ∈ y.Num → inRange .u32 z) ∧ (y.Den.length ≤ maxLen ∧ ∀ z, z ∈ y.Den → inRange .u32 z)) (fun _ => 0) (fun _ => rfl) (fun _ h => h) (fun _ => Nat.zero_le _)
def tyTOp : Ty Tryz.prog 74 := Ty.as (Ty.struct Tryz.underlying74 (Flds.cons (Ty.int .i64 Tryz.underlying3) rfl 1 (by kernel_rfl) (Flds.cons (Ty.int .i64 Tryz.underlying3) rfl 1 (by kernel_rfl) (Flds.cons (Ty.int .i64 Tryz.underlying3) rfl 1 (by kernel_rfl) (Flds.cons (Ty.int .i64 Tryz.underlying3) rfl 1 (by kernel_rfl) (Flds.last tyRat rfl (by kernel_rfl)))))))
  (fun y => TOp.mk y.1 y.2.1 y.2.2.1 y.2.2.2.1 y.2.2.2.2) TOp.D (fun y => inRange .i64 y.Code ∧ inRange .i64 y.A_ ∧ inRange .i64 y.B_ ∧ inRange .i64 y.Exp ∧ tyRat.ok y.Num) (fun _ => 0) (fun _ => rfl) (fun _ h => h) (fun _ => Nat.zero_le _)
def tyTape : Ty Tryz.prog 68 := Ty.as (Ty.struct Tryz.underlying68 (Flds.cons (Ty.int .i64 Tryz.underlying3) rfl 1 (by kernel_rfl) (Flds.cons (Ty.slice Tryz.underlying66 tyTOp (by decide +kernel) (fun _ => show 7 = _ by kernel_rfl)) rfl 1 (by kernel_rfl) (Flds.last (Ty.slice Tryz.underlying46 (Ty.int .i64 Tryz.underlying3) (by decide +kernel) (fun _ => show 1 = _ by kernel_rfl)) rfl (by kernel_rfl)))))
  (fun y => Tape.mk y.1 y.2.1 y.2.2) Tape.D (fun y => inRange .i64 y.Ins ∧ (y.Ops.length ≤ maxLen ∧ ∀ z, z ∈ y.Ops → tyTOp.ok z) ∧ (y.Outs.length ≤ maxLen ∧ ∀ z, z ∈ y.Outs → inRange .i64 z)) (fun _ => 0) (fun _ => rfl) (fun _ h => h) (fun _ => Nat.zero_le _)
def tyEdge : Ty Tryz.prog 119 := Ty.as (Ty.struct Tryz.underlying119 (Flds.cons (Ty.int .i64 Tryz.underlying3) rfl 1 (by kernel_rfl) (Flds.cons (Ty.int .i64 Tryz.underlying3) rfl 1 (by kernel_rfl) (Flds.last tyRat rfl (by kernel_rfl)))))
  (fun y => Edge.mk y.1 y.2.1 y.2.2) Edge.D (fun y => inRange .i64 y.From ∧ inRange .i64 y.To ∧ tyRat.ok y.W) (fun _ => 0) (fun _ => rfl) (fun _ h => h) (fun _ => Nat.zero_le _)
def tyGraph : Ty Tryz.prog 48 := Ty.as (Ty.struct Tryz.underlying48 (Flds.cons (Ty.int .i64 Tryz.underlying3) rfl 1 (by kernel_rfl) (Flds.cons (Ty.int .i64 Tryz.underlying3) rfl 1 (by kernel_rfl) (Flds.cons (Ty.int .i64 Tryz.underlying3) rfl 1 (by kernel_rfl) (Flds.cons (Ty.slice Tryz.underlying45 tyEdge (by decide +kernel) (fun _ => show 5 = _ by kernel_rfl)) rfl 1 (by kernel_rfl) (Flds.last (Ty.slice Tryz.underlying46 (Ty.int .i64 Tryz.underlying3) (by decide +kernel) (fun _ => show 1 = _ by kernel_rfl)) rfl (by kernel_rfl)))))))
  (fun y => Graph.mk y.1 y.2.1 y.2.2.1 y.2.2.2.1 y.2.2.2.2) Graph.D (fun y => inRange .i64 y.Ins ∧ inRange .i64 y.Mids ∧ inRange .i64 y.Outs ∧ (y.Edges.length ≤ maxLen ∧ ∀ z, z ∈ y.Edges → tyEdge.ok z) ∧ (y.Gone.length ≤ maxLen ∧ ∀ z, z ∈ y.Gone → inRange .i64 z)) (fun _ => 0) (fun _ => rfl) (fun _ h => h) (fun _ => Nat.zero_le _)
end Go.Ab.M
end

section
namespace Go.Proofs.YtpefcgiiigdcdaaGreat.shapeOf
open Go.ChangeShapes Go.WideShapes Go.ChangeAt Go.RowKit Go.Ab Go.Ab.M
set_option linter.unusedVariables false

theorem own : ownKnob Tryz.prog.godebug = none := by kernel_rfl

theorem core (a : Go.Ab.M.Tape) (b : Graph) (ha : tyTape.ok a) (hb : tyGraph.ok b) : ACallsD Tryz.prog 7 0 [AG Go.Ab.M.Tape.D a, AG Graph.D b] [] yes [] := law22_ShapeOf_ok a b true (ShapeOf_true a b ha hb)

set_option maxRecDepth 100000 in
theorem contract (H : Type) (enc : TypeId × Value → H) (W : World) (base : Nat) (args : Array Value) (ds gs : List (DataW H)) (before : List MemPlace)
    (hval : ∀ (j : Nat) t v, Tryz.f7.params[j]? = some t → args[j]? = some v → Value.okWide Tryz.prog W .any base t v)
    (hW : DataW.Whole enc Tryz.prog Tryz.f7.params.toList Rows.shapeOfSpec.vars false W args.toList ds gs before) :
    Calls Tryz.prog 7 args W fun e W' => ∃ v, e = .returned v ∧ Rows.shapeOfSpec.post enc Tryz.prog Tryz.f7 false true false false W args v W' :=
  law_contract (tb := 4) (ts := [68, 48]) (Tup.agg tyTape (by kernel_rfl) (Tup.agg tyGraph (by kernel_rfl) Tup.nil)) (by kernel_rfl) (by kernel_rfl) (by kernel_rfl) (by kernel_rfl) Tryz.underlying4 rfl (fun ds h => by
      match ds, h with
      | [d0, d1], _ => rfl) hval hW
    fun y hy _ => core y.1 y.2.1 hy.1 hy.2.1

set_option maxRecDepth 100000 in
theorem lifted (os : Os) (started : os.Started) (H : Type) (enc : TypeId × Value → H) :
    ReturnsInHanded {} Tryz.checked os 7 .any (Rows.shapeOfSpec.pre6 enc Tryz.prog Tryz.f7 Rows.shapeOfRow.domain false) (Rows.shapeOfSpec.post enc Tryz.prog Tryz.f7 false true false false) := by
  refine returnsInHanded_of_change (C := Tryz.checked) own started (by kernel_rfl) Tryz.func7
    (ChangeSpec.witness6 (enc := enc) (C := Tryz.checked) false ⟨#[], #[.agg #[.int .i64 0, .slice none 0 0, .slice none 0 0], .agg #[.int .i64 0, .int .i64 0, .int .i64 0, .slice none 0 0, .slice none 0 0]], []⟩ 8 (by kernel_rfl) (by kernel_rfl) (by kernel_rfl) (by kernel_rfl)) ?_
  intro W base args ds gs before hval hW _ _
  exact contract H enc W base args ds gs before hval hW

theorem fact0 : (Rows.shapeOfRow.wf (OpenSpec.ofChange Rows.shapeOfSpec)) = true := by kernel_rfl
theorem fact1 : (laidOutB Tryz.prog) = true := by kernel_rfl
theorem fact2 : (mapsRowed Tryz.prog) = true := by kernel_rfl
theorem fact3 : (Tryz.f7.params.all (Tryz.prog.readableRec ·)) = true := by kernel_rfl
theorem fact4 : (namedTie Tryz.prog Rows.shapeOfRow.named Rows.shapeOfSpec.vars) = true := by kernel_rfl
theorem fact5 : ((Rows.shapeOfRow.stops == [])) = true := by kernel_rfl
theorem fact6 : ((Tryz.prog.stops == [])) = true := by kernel_rfl
theorem fact7 : ((Rows.shapeOfRow.knobs == [])) = true := by kernel_rfl
theorem fact8 : ((Tryz.prog.stopKnobs == [])) = true := by kernel_rfl
theorem fact9 : ((Rows.shapeOfRow.inPlace == Tryz.prog.inPlace 7)) = true := by kernel_rfl
theorem fact10 : ((Rows.shapeOfRow.unfollowed == Tryz.prog.unfollowed 7)) = true := by kernel_rfl
theorem fact11 : ((Rows.shapeOfRow.recurses == Tryz.prog.recurses 7)) = true := by kernel_rfl
theorem fact12 : ((Rows.shapeOfRow.named == Tryz.prog.varsNamed 7)) = true := by kernel_rfl
theorem fact13 : ((Rows.shapeOfRow.maps == (Tryz.f7.params.toList ++ Rows.shapeOfSpec.plain.varTypes Tryz.prog).any (Tryz.prog.mapsRec ·))) = true := by kernel_rfl
theorem fact14 : ((Rows.shapeOfRow.ifaces == (Tryz.f7.params.toList ++ Rows.shapeOfSpec.plain.varTypes Tryz.prog).any (Tryz.prog.ifacesRec ·))) = true := by kernel_rfl
theorem fact15 : ((Rows.shapeOfRow.mapsOut == Tryz.prog.mapsAmong Tryz.f7.resultTypes.toList)) = true := by kernel_rfl
theorem fact16 : ((Rows.shapeOfRow.loops == (Tryz.f7.params.toList ++ Rows.shapeOfSpec.plain.varTypes Tryz.prog).any (Tryz.prog.loopsFrom ·))) = true := by kernel_rfl
theorem fact17 : ((Rows.shapeOfRow.wideKeys == (Tryz.f7.params.toList ++ Rows.shapeOfSpec.plain.varTypes Tryz.prog ++ Tryz.f7.resultTypes.toList).any (Tryz.prog.wideKeysFrom ·))) = true := by kernel_rfl
theorem fact18 : (Rows.shapeOfSpec.vars.all (Tryz.prog.varReadable ·)) = true := by kernel_rfl
theorem fact19 : (Tryz.f7.resultTypes.all (fun t => Tryz.prog.readableRec t && decide (t < Tryz.prog.types.size))) = true := by kernel_rfl
theorem fact20 : ((Rows.shapeOfRow.ifacesOut == Tryz.f7.resultTypes.toList.any (Tryz.prog.ifacesRec ·))) = true := by kernel_rfl
theorem fact21 : ((Rows.shapeOfRow.loopsOut == Tryz.f7.resultTypes.toList.any (Tryz.prog.loopsFrom ·))) = true := by kernel_rfl
theorem fact22 : ((Rows.shapeOfRow.plainKeys == Tryz.prog.plainKeys)) = true := by kernel_rfl
theorem fact23 : (Rows.shapeOfRow.shortTexts.isNone) = true := by kernel_rfl
theorem fact24 : (Tryz.prog.stopsHeard) = true := by kernel_rfl
theorem fact25 : (Tryz.prog.mayEnter) = true := by kernel_rfl
theorem fact26 : ((Rows.shapeOfRow.lifted == Tryz.prog.liftsFinal)) = true := by kernel_rfl
theorem fact27 : ((Tryz.prog.make == some Rows.shapeOfRow.make)) = true := by kernel_rfl
theorem fact28 : ((Rows.shapeOfRow.kinds == (if Rows.shapeOfRow.domain.isEmpty then [] else Tryz.f7.params.toList.map fun t => match Tryz.prog.underlying t with | some (.int k) => some k | _ => none))) = true := by kernel_rfl
theorem fact29 : ((Rows.shapeOfRow.pinned == Rows.shapeOfRow.pinnedBy)) = true := by kernel_rfl
theorem fact30 : ((Rows.shapeOfRow.veiled == (Tryz.f7.params.toList ++ Rows.shapeOfSpec.plain.varTypes Tryz.prog ++ Tryz.f7.resultTypes.toList).any (Tryz.prog.veiledRec ·))) = true := by kernel_rfl
theorem fact31 : (Rows.shapeOfRow.veiledFits Tryz.prog Tryz.f7.params.toList (Tryz.f7.params.toList ++ Rows.shapeOfSpec.plain.varTypes Tryz.prog ++ Tryz.f7.resultTypes.toList)) = true := by kernel_rfl
theorem and_t {a b : Bool} (h : a = true) (k : b = true) : (a && b) = true := by rw [h, k]; rfl
set_option maxRecDepth 100000 in
theorem closed : joinedFacts Tryz.prog 7 Tryz.f7 Rows.shapeOfSpec Rows.shapeOfRow = true := by
  unfold joinedFacts
  exact and_t (and_t (and_t (and_t (and_t (and_t (and_t (and_t (and_t (and_t (and_t (and_t (and_t (and_t (and_t (and_t (and_t (and_t (and_t (and_t (and_t (and_t (and_t (and_t (and_t (and_t (and_t (and_t (and_t (and_t (and_t (fact0) fact1) fact2) fact3) fact4) fact5) fact6) fact7) fact8) fact9) fact10) fact11) fact12) fact13) fact14) fact15) fact16) fact17) fact18) fact19) fact20) fact21) fact22) fact23) fact24) fact25) fact26) fact27) fact28) fact29) fact30) fact31

theorem over : Rows.shapeOfRow.holds Tryz.pinned (OpenSpec.ofChange Rows.shapeOfSpec) :=
  OpenClaim.holds_of_wide 7 Tryz.f7 rfl rfl rfl rfl rfl rfl rfl ⟨rfl, rfl, rfl, rfl, rfl⟩ rfl rfl rfl rfl rfl (by kernel_rfl) Tryz.func7 closed
    (of_decide_eq_true (by kernel_rfl)) (by unfold Func.isWrapper; first | (rw [if_pos (by decide +kernel)]; kernel_rfl) | (rw [if_neg (by decide +kernel)]; exact ⟨rfl, rfl⟩))
    (fun os started H enc _ => lifted os started H enc)

theorem proved : Rows.ShapeOfSaid :=
  over
end Go.Proofs.YtpefcgiiigdcdaaGreat.shapeOf
end
