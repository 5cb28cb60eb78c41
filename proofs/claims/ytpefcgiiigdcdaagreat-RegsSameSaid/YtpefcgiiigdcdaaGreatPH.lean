/-
  TEXTS PUT TOGETHER: PlPw.
-/
import Derived.Test.YtpefcgiiigdcdaaGreatPG
import Derived.Test.YtpefcgiiigdcdaaGreatTE
section
/-
  POWERS: what times.Pow, ratio.Pow and the document's Pow tell.
  Conditions: few words, exponents of at most 64.
-/
namespace Go.Ab.M
open Go.Proofs
set_option linter.unusedVariables false
set_option maxRecDepth 100000

theorem Pow_l1_eq {a : List Int} (ha : Wds a) {n : Nat} (h1 : val a ≤ 1) (hl : a.length ≤ 300000000) :
    times_Pow_l a (n : Int) ((lowN a : Nat) : Int) (natW 1) 0 = some (natW (val a ^ n)) := by
  have hlow := lowN_le a
  have hv : val (a.take (lowN a)) = val a := val_take_low ha (Nat.le_refl _)
  have hm := times_Mul_eq (natW_wds 1) (ha.take (lowN a)) (by rw [List.length_take]; have : (natW 1).length ≤ 1 := natW_len (by decide); omega)
  rw [val_natW, hv, Nat.one_mul] at hm
  unfold times_Pow_l
  rcases Nat.eq_zero_or_pos n with q | q
  · subst q
    have e : mnI ((0 : Nat) : Int) 1 = 0 := by decide
    refine loop_run (round := fun σ : List Int × Nat => times_Pow_l_rd a ((0 : Nat) : Int) ((lowN a : Nat) : Int) σ.1 σ.2) (fun i => (natW 1, i)) 0 (fun i hi => by omega) ?_ (by simp only [FU]; omega)
    simp only [times_Pow_l_rd, e, Nat.pow_zero]
    rfl
  · have e : mnI (n : Int) 1 = 1 := by
      unfold mnI
      rw [cond_false]
      split <;> omega
    have hp : val a ^ n = val a := by
      rcases Nat.lt_or_ge 0 (val a) with r | r
      · have : val a = 1 := by omega
        rw [this, Nat.one_pow]
      · have : val a = 0 := by omega
        rw [this, Nat.zero_pow q]
    rw [hp]
    refine loop_run (round := fun σ : List Int × Nat => times_Pow_l_rd a (n : Int) ((lowN a : Nat) : Int) σ.1 σ.2) (fun i => (if i = 0 then natW 1 else natW (val a), i)) 1 (fun i hi => ?_) ?_ (by simp only [FU]; omega)
    · obtain rfl : i = 0 := by omega
      simp (disch := omega) only [times_Pow_l_rd, e, Int.toNat_natCast, if_t, ite_true, hm, Bool.cond_decide, Option.bind_some, inK_i64, cond_true]
      rfl
    · simp only [times_Pow_l_rd, e]
      rfl

theorem times_Pow_eq2 {a : List Int} (ha : Wds a) (hl : a.length ≤ 100000) {k : Nat} (hk : a.length * k ≤ 4096) (hk2 : k ≤ 4096) : times_Pow a (k : Int) = some (natW (val a ^ k), true) := by
  have hlow := limb_Low_eq a (by omega)
  have hle := lowN_le a
  obtain ⟨r, r1, r3, r4, r5⟩ := nat_Bits_bl ha (by omega)
  have hof := nat_Of_eq (n := 1) (by decide)
  have e0 : ((1 : Nat) : Int) = 1 := rfl
  rw [e0] at hof
  have e1 : ¬ ((k : Int) < 0) := by omega
  by_cases h : val a ≤ 1
  · have hr : ¬ ((r : Int) > 1) := by
      rcases Nat.eq_zero_or_pos (val a) with q | q
      · have := r4 q; omega
      · obtain ⟨q1, q2⟩ := r5 q
        intro hr
        have : (2 : Nat) ^ 1 ≤ 2 ^ (r - 1) := Nat.pow_le_pow_right (by decide) (by omega)
        omega
    have hpw := Pow_l1_eq ha (n := k) h (by omega)
    simp (disch := omega) only [times_Pow, hlow, r1, Option.bind_some, Bool.cond_decide, if_neg e1, if_neg hr, decide_eq_false hr, Bool.not_false, cond_true, hof, hpw]
  · have hr : (r : Int) > 1 := by
      rcases Nat.lt_or_ge 1 r with q | q
      · omega
      · have : (2 : Nat) ^ r ≤ 2 ^ 1 := Nat.pow_le_pow_right (by decide) q
        omega
    have hlp := (lowN_pos_val ha).2 (by omega)
    have hm : k * lowN a ≤ 4096 := Nat.le_trans (Nat.mul_comm a.length k ▸ Nat.mul_le_mul_left k hle) hk
    have hd : (k : Int) ≤ 4096 / ((lowN a : Nat) : Int) := by
      rw [Int.le_ediv_iff_mul_le (by omega), ← Int.natCast_mul]
      omega
    have e3 : ¬ ((k : Int) > 4096 / ((lowN a : Nat) : Int)) := by omega
    have e4 : (4096 : Int) ≤ Go.Ab.hi .i64 := by simp only [hi]; decide
    have e5 : (0 : Int) < ((lowN a : Nat) : Int) := by omega
    have e6 : (0 : Nat) ≤ 4096 := by decide
    have hpw := Pow_l2_eq ha (n := k) (by omega) (by omega) (by omega) (by omega)
    simp only [times_Pow, hlow, r1, Option.bind_some, Bool.cond_decide, if_neg e1, if_pos hr, decide_eq_true hr, cond_true, if_pos e5, if_neg e3, Bool.not_true, cond_false, hof, hpw, decide_eq_true e6, decide_eq_true e4]

theorem pow_mk (q : _root_.Rat) (m : Nat) : mkRat (q.num ^ m) (q.den ^ m) = q ^ m := by
  rw [← Rat.num_pow, ← Rat.den_pow, Rat.mkRat_self]
theorem odd_cases (m : Nat) : m % 2 = 0 ∨ m % 2 = 1 := by omega
theorem neg_pow_even (z : Int) {m : Nat} (h : m % 2 = 0) : (-z) ^ m = z ^ m := by
  obtain ⟨j, rfl⟩ : ∃ j, m = 2 * j := ⟨m / 2, by omega⟩
  rw [Int.pow_mul, Int.pow_mul]
  congr 1
  rw [Int.pow_succ, Int.pow_succ, Int.pow_zero, Int.pow_succ, Int.pow_succ, Int.pow_zero, Int.one_mul, Int.one_mul, Int.neg_mul_neg]
theorem neg_pow_odd (z : Int) {m : Nat} (h : m % 2 = 1) : (-z) ^ m = -(z ^ m) := by
  obtain ⟨j, rfl⟩ : ∃ j, m = 2 * j + 1 := ⟨m / 2, by omega⟩
  rw [Int.pow_succ, Int.pow_succ, neg_pow_even z (by omega), Int.mul_neg]
/-- the sign of a power -/
theorem sg_pow (z : Int) (m : Nat) : sgI (decide (z < 0) && decide (m % 2 = 1)) (z.natAbs ^ m) = z ^ m := by
  unfold sgI
  by_cases h : z < 0
  · rcases odd_cases m with q | q
    · simp only [h, q, decide_true, Bool.true_and]
      rw [if_neg (by decide), Int.natCast_pow, show ((z.natAbs : Nat) : Int) = -z by omega, neg_pow_even z q]
    · simp only [h, q, decide_true, Bool.true_and]
      rw [if_pos True.intro, Int.natCast_pow, show ((z.natAbs : Nat) : Int) = -z by omega, neg_pow_odd z q, Int.neg_neg]
  · simp only [h, decide_false, Bool.false_and, Bool.false_eq_true, if_false]
    rw [Int.natCast_pow, show ((z.natAbs : Nat) : Int) = z by omega]
/-- a power's inverse, from its parts -/
theorem sg_inv (q : _root_.Rat) (hq : q ≠ 0) (m : Nat) : mkRat (sgI (decide (q.num < 0) && decide (m % 2 = 1)) (q.den ^ m)) (q.num.natAbs ^ m) = (q ^ m)⁻¹ := by
  have hn : q.num ≠ 0 := fun h => hq (Rat.num_eq_zero.1 h)
  have hp : q.num ^ m ≠ 0 := Int.pow_ne_zero hn
  have hd : (0 : Int) ≤ ((q.den ^ m : Nat) : Int) := Int.natCast_nonneg _
  have key := mk_div ((q.den ^ m : Nat) : Int) (q.num ^ m) hp
  have e1 : decide (((q.den ^ m : Nat) : Int) < 0) = false := decide_eq_false (by omega)
  have e2 : decide (q.num ^ m < 0) = (decide (q.num < 0) && decide (m % 2 = 1)) := by
    have := sg_pow q.num m
    have hpos : 0 < q.num.natAbs ^ m := Nat.pow_pos (by omega)
    cases hb : (decide (q.num < 0) && decide (m % 2 = 1)) with
    | false => rw [hb] at this; unfold sgI at this; simp only [Bool.false_eq_true, if_false] at this; exact decide_eq_false (by omega)
    | true => rw [hb] at this; unfold sgI at this; simp only [if_true] at this; exact decide_eq_true (by omega)
  rw [e1, e2, Int.natAbs_natCast, Int.natAbs_pow] at key
  have e3 : (!(false == (decide (q.num < 0) && decide (m % 2 = 1)))) = (decide (q.num < 0) && decide (m % 2 = 1)) := by cases (decide (q.num < 0) && decide (m % 2 = 1)) <;> rfl
  rw [e3] at key
  rw [key, Rat.inv_def, Rat.num_pow, Rat.den_pow]

/-- what a power comes to -/
def pwR (q : _root_.Rat) (k : Int) : Rat × Int := if k < 0 ∧ q = 0 then (⟨false, [], []⟩, 3) else (ofR (q ^ k), 0)
theorem zpow_nonneg (q : _root_.Rat) {k : Int} (h : 0 ≤ k) : q ^ k = q ^ k.natAbs := by
  obtain ⟨m, rfl⟩ : ∃ m : Nat, k = m := ⟨k.toNat, by omega⟩
  rw [Rat.zpow_natCast, Int.natAbs_natCast]
theorem zpow_negv (q : _root_.Rat) {k : Int} (h : k < 0) : q ^ k = (q ^ k.natAbs)⁻¹ := by
  obtain ⟨m, rfl⟩ : ∃ m : Nat, k = -(m : Int) := ⟨k.natAbs, by omega⟩
  rw [Rat.zpow_neg, Rat.zpow_natCast, Int.natAbs_neg, Int.natAbs_natCast]
theorem tmod_two (k : Int) : ((Int.tmod k 2) != 0) = decide (k.natAbs % 2 = 1) := by
  have h := Int.natAbs_tmod k 2
  have h2 : Int.natAbs 2 = 2 := rfl
  rw [h2] at h
  by_cases q : k.natAbs % 2 = 1
  · rw [decide_eq_true q, bne_iff_ne]; omega
  · rw [decide_eq_false q]
    have : Int.tmod k 2 = 0 := by omega
    rw [this]; rfl
theorem mx_abs (k : Int) : mxI k (0 - k) = ((k.natAbs : Nat) : Int) := by
  unfold mxI
  rw [cond_true]
  split <;> omega
theorem mx_abs2 (k : Int) : (if 0 - k > k then 0 - k else k) = ((k.natAbs : Nat) : Int) := by split <;> omega
theorem ratio_Pow_eq2 {x : Rat} {n : Nat} (hx : okL n x) (hn0 : 0 < n) (hn : n ≤ 100000) {k : Int} (hnk : n * k.natAbs ≤ 4096) (h1 : -64 ≤ k) (h2 : k ≤ 64) : ratio_Pow x k = some (pwR (qR x) k) := by
  have hof := ratio_of_eq hx (by omega)
  have sx := hx.sz hn0
  generalize qR x = q at hof sx
  have p1 := times_Pow_eq2 (natW_wds q.num.natAbs) (Nat.le_trans sx.num hn) (k := k.natAbs) (Nat.le_trans (Nat.mul_le_mul_right _ sx.num) hnk) (by omega)
  have p2 := times_Pow_eq2 (natW_wds q.den) (Nat.le_trans sx.den hn) (k := k.natAbs) (Nat.le_trans (Nat.mul_le_mul_right _ sx.den) hnk) (by omega)
  rw [val_natW] at p1 p2
  have c1 : ¬ (k < -64) := by omega
  have c2 : ¬ (k > 64) := by omega
  have hw1 := natW_wds (q.num.natAbs ^ k.natAbs)
  have hw2 := natW_wds (q.den ^ k.natAbs)
  have hp4 : (4294967296 : Nat) ^ (n * k.natAbs) = (4294967296 ^ n) ^ k.natAbs := Nat.pow_mul ..
  have l1 : (natW (q.num.natAbs ^ k.natAbs)).length ≤ n * k.natAbs + 1 := natW_len (by
    have := Nat.pow_le_pow_left (Nat.le_of_lt sx.1) k.natAbs
    rw [← hp4] at this
    have h3 : (4294967296 : Nat) ^ (n * k.natAbs) < 4294967296 ^ (n * k.natAbs + 1) := Nat.pow_lt_pow_right (by decide) (by omega)
    omega)
  have l2 : (natW (q.den ^ k.natAbs)).length ≤ n * k.natAbs + 1 := natW_len (by
    have := Nat.pow_le_pow_left (Nat.le_of_lt sx.2) k.natAbs
    rw [← hp4] at this
    have h3 : (4294967296 : Nat) ^ (n * k.natAbs) < 4294967296 ^ (n * k.natAbs + 1) := Nat.pow_lt_pow_right (by decide) (by omega)
    omega)
  have low1 := fun neg => ratio_lowest_eq neg hw1 hw2 (by omega) (by omega)
  have low2 := fun neg => ratio_lowest_eq neg hw2 hw1 (by omega) (by omega)
  simp only [val_natW] at low1 low2
  have hneg : (ofR q).Neg = decide (q.num < 0) := rfl
  have hnum : (ofR q).Num = natW q.num.natAbs := rfl
  have hden : (ofR q).Den = natW q.den := rfl
  have hz := num_len_zero q
  rw [hnum] at hz
  have hpos : q.num ^ k.natAbs = sgI (decide (q.num < 0) && decide (k.natAbs % 2 = 1)) (q.num.natAbs ^ k.natAbs) := (sg_pow _ _).symm
  have fin1 : 0 ≤ k → mkRat (sgI (decide (q.num < 0) && decide (k.natAbs % 2 = 1)) (q.num.natAbs ^ k.natAbs)) (q.den ^ k.natAbs) = q ^ k := fun h => by
    rw [← hpos, pow_mk, zpow_nonneg q h]
  have fin2 : k < 0 → q ≠ 0 → mkRat (sgI (decide (q.num < 0) && decide (k.natAbs % 2 = 1)) (q.den ^ k.natAbs)) (q.num.natAbs ^ k.natAbs) = q ^ k := fun h hq => by
    rw [sg_inv q hq, zpow_negv q h]
  have hin : inK .i64 (0 - k) = true := by rw [inK_i64 (by omega) (by omega)]
  have ht := tmod_two k
  have h22 : decide ((2 : Int) ≠ 0) = true := rfl
  unfold pwR
  by_cases hk : k < 0
  · by_cases hq : q = 0
    · rw [if_pos ⟨hk, hq⟩]
      have hz1 : ((((natW q.num.natAbs).length : Nat) : Int) == 0) = true := by rw [hz]; exact decide_eq_true hq
      simp only [ratio_Pow, hof, Option.bind_some, decide_eq_false c1, decide_eq_false c2, decide_eq_true hk, cond_false, cond_true, hnum, hz1]
    · rw [if_neg (fun h => hq h.2)]
      have hz1 : ((((natW q.num.natAbs).length : Nat) : Int) == 0) = false := by rw [hz]; exact decide_eq_false hq
      have f := fin2 hk hq
      by_cases hs : q.num < 0
      · simp only [decide_eq_true hs, Bool.true_and] at f
        simp only [ratio_Pow, hof, Option.bind_some, decide_eq_false c1, decide_eq_false c2, decide_eq_true hk, cond_false, cond_true, hnum, hden, hneg, hz1, hin, mx_abs2, p1, p2, decide_eq_true hs, h22, ht, low2, f]
      · simp only [decide_eq_false hs, Bool.false_and] at f
        simp only [ratio_Pow, hof, Option.bind_some, decide_eq_false c1, decide_eq_false c2, decide_eq_true hk, cond_false, cond_true, hnum, hden, hneg, hz1, hin, mx_abs2, p1, p2, decide_eq_false hs, h22, ht, low2, f]
  · rw [if_neg (fun h => hk h.1)]
    have f := fin1 (by omega)
    by_cases hs : q.num < 0
    · simp only [decide_eq_true hs, Bool.true_and] at f
      simp only [ratio_Pow, hof, Option.bind_some, decide_eq_false c1, decide_eq_false c2, decide_eq_false hk, cond_false, cond_true, hnum, hden, hneg, hin, mx_abs2, p1, p2, decide_eq_true hs, h22, ht, low1, f]
    · simp only [decide_eq_false hs, Bool.false_and] at f
      simp only [ratio_Pow, hof, Option.bind_some, decide_eq_false c1, decide_eq_false c2, decide_eq_false hk, cond_false, cond_true, hnum, hden, hneg, hin, mx_abs2, p1, p2, decide_eq_false hs, h22, ht, low1, f]
/-! ### the document's -/
end Go.Ab.M
end
