/-
  TEXTS PUT TOGETHER: PlN1, PlN2, PlN3, PlN4, PlN5, PlN6.
-/
import Derived.Test.YtpefcgiiigdcdaaPA
import Derived.Test.YtpefcgiiigdcdaaTD
section
/-
  PLAIN LAW: NATURAL NUMBERS BY WORDS (what a list of words comes to; words, without 0s at the end).
-/
namespace Go.Ab.M
set_option linter.unusedVariables false
set_option linter.unusedSimpArgs false

def isWd (x : Int) : Prop := 0 ≤ x ∧ x < 4294967296
def Wds (a : List Int) : Prop := ∀ x ∈ a, isWd x
theorem Wds.nth {a : List Int} (h : Wds a) (i : Nat) : isWd (nth a i) := by
  by_cases hi : i < a.length
  · exact h _ (nth_mem hi)
  · simp only [Go.Ab.nth, List.getD, List.getElem?_eq_none (by omega : a.length ≤ i)]; exact ⟨Int.le_refl 0, by decide⟩
theorem Wds.set {a : List Int} (h : Wds a) (i : Nat) {x : Int} (hx : isWd x) : Wds (a.set i x) := fun y hy => by
  rcases List.mem_or_eq_of_mem_set hy with h1 | h1
  · exact h y h1
  · rw [h1]; exact hx
theorem Wds.nil : Wds [] := fun x h => by cases h
theorem Wds.cons {a : List Int} {x : Int} (hx : isWd x) (h : Wds a) : Wds (x :: a) := fun y hy => by
  rcases List.mem_cons.1 hy with e | e
  · rw [e]; exact hx
  · exact h y e
theorem Wds.tail {a : List Int} {x : Int} (h : Wds (x :: a)) : isWd x ∧ Wds a := ⟨h x (by simp), fun y hy => h y (by simp [hy])⟩
theorem Wds.append {a b : List Int} (h : Wds a) (k : Wds b) : Wds (a ++ b) := fun y hy => by
  rcases List.mem_append.1 hy with e | e
  · exact h y e
  · exact k y e
theorem Wds.take {a : List Int} (h : Wds a) (n : Nat) : Wds (a.take n) := fun y hy => h y (List.mem_of_mem_take hy)
/-- what a list of words comes to -/
def val : List Int → Nat
  | [] => 0
  | x :: r => x.toNat + 4294967296 * val r
theorem val_append (a b : List Int) : val (a ++ b) = val a + 4294967296 ^ a.length * val b := by
  induction a with
  | nil => simp [val]
  | cons x r ih => simp only [List.cons_append, val, ih, List.length_cons, Nat.pow_succ]; grind
theorem val_lt {a : List Int} (h : Wds a) : val a < 4294967296 ^ a.length := by
  induction a with
  | nil => simp [val]
  | cons x r ih =>
    have h1 := h.tail
    have h2 := ih h1.2
    have h3 := h1.1
    unfold isWd at h3
    simp only [val, List.length_cons, Nat.pow_succ]
    omega
theorem val_take_succ {a : List Int} {i : Nat} (h : i < a.length) : val (a.take (i + 1)) = val (a.take i) + 4294967296 ^ i * (nth a i).toNat := by
  rw [take_nth h, val_append]
  simp [val, Nat.min_eq_left (Nat.le_of_lt h)]
/-- a number's words -/
def natW (n : Nat) : List Int := if n = 0 then [] else ((n % 4294967296 : Nat) : Int) :: natW (n / 4294967296)
termination_by n
decreasing_by omega
theorem natW_zero : natW 0 = [] := by unfold natW; simp
theorem natW_pos {n : Nat} (h : 0 < n) : natW n = ((n % 4294967296 : Nat) : Int) :: natW (n / 4294967296) := by
  rw [natW, if_neg (by omega)]
theorem natW_wds (n : Nat) : Wds (natW n) := by
  induction n using Nat.strongRecOn with
  | _ n ih =>
    rcases Nat.eq_zero_or_pos n with h | h
    · subst h; rw [natW_zero]; exact Wds.nil
    · rw [natW_pos h]
      exact Wds.cons ⟨by omega, by omega⟩ (ih _ (by omega))
theorem val_natW (n : Nat) : val (natW n) = n := by
  induction n using Nat.strongRecOn with
  | _ n ih =>
    rcases Nat.eq_zero_or_pos n with h | h
    · subst h; rw [natW_zero]; rfl
    · rw [natW_pos h]
      simp only [val, ih _ (show n / 4294967296 < n by omega)]
      omega
theorem natW_len {n k : Nat} (h : n < 4294967296 ^ k) : (natW n).length ≤ k := by
  induction k generalizing n with
  | zero =>
    have : n = 0 := by simp at h; exact h
    subst this; rw [natW_zero]; simp
  | succ k ih =>
    rcases Nat.eq_zero_or_pos n with e | e
    · subst e; rw [natW_zero]; simp
    · rw [natW_pos e, List.length_cons]
      have := ih (n := n / 4294967296) (by rw [Nat.pow_succ] at h; omega)
      omega
theorem natW_inj {m n : Nat} (h : natW m = natW n) : m = n := by rw [← val_natW m, h, val_natW]
theorem natW_nil {n : Nat} : natW n = [] ↔ n = 0 := ⟨fun h => natW_inj (h.trans natW_zero.symm), fun h => by rw [h, natW_zero]⟩

/-- how many words there are, without 0s at the end -/
def lowN : List Int → Nat
  | [] => 0
  | x :: r => if lowN r = 0 then (if x = 0 then 0 else 1) else lowN r + 1
theorem lowN_le (a : List Int) : lowN a ≤ a.length := by
  induction a with
  | nil => simp [lowN]
  | cons x r ih => simp only [lowN, List.length_cons]; repeat' split
                   all_goals omega
theorem lowN_above (a : List Int) : ∀ i, lowN a ≤ i → nth a i = 0 := by
  induction a with
  | nil => intro i _; simp [nth, List.getD]
  | cons x r ih =>
    intro i hi
    simp only [lowN] at hi
    cases i with
    | zero =>
      have e : nth (x :: r) 0 = x := rfl
      rw [e]
      repeat' split at hi
      · assumption
      · omega
      · omega
    | succ i =>
      have e : nth (x :: r) (i + 1) = nth r i := by simp [nth, List.getD]
      rw [e]
      refine ih i ?_
      repeat' split at hi
      all_goals omega
theorem lowN_at (a : List Int) (h : 0 < lowN a) : nth a (lowN a - 1) ≠ 0 := by
  induction a with
  | nil => simp [lowN] at h
  | cons x r ih =>
    simp only [lowN] at h ⊢
    by_cases h1 : lowN r = 0
    · rw [if_pos h1] at h ⊢
      by_cases h2 : x = 0
      · rw [if_pos h2] at h; omega
      · rw [if_neg h2]; exact h2
    · rw [if_neg h1]
      have := ih (by omega)
      have e : nth (x :: r) (lowN r + 1 - 1) = nth r (lowN r - 1) := by
        have : lowN r + 1 - 1 = (lowN r - 1) + 1 := by omega
        rw [this]; simp [nth, List.getD]
      rw [e]; exact this
theorem lowN_val {a : List Int} (h : Wds a) : lowN a = 0 ↔ val a = 0 := by
  induction a with
  | nil => simp [lowN, val]
  | cons x r ih =>
    have h1 := h.tail
    have h2 := ih h1.2
    have h3 := h1.1
    unfold isWd at h3
    simp only [lowN, val]
    by_cases e : lowN r = 0
    · have := h2.1 e
      rw [if_pos e]
      by_cases e2 : x = 0
      · simp [e2, this]
      · simp [e2]; omega
    · have : val r ≠ 0 := fun q => e (h2.2 q)
      rw [if_neg e]
      constructor
      · intro q; omega
      · intro q; omega
theorem take_lowN {a : List Int} (h : Wds a) : a.take (lowN a) = natW (val a) := by
  induction a with
  | nil => simp [val, natW_zero]
  | cons x r ih =>
    have h1 := h.tail
    have h2 := ih h1.2
    have h3 := h1.1
    have h4 := lowN_val h1.2
    unfold isWd at h3
    rcases Nat.eq_zero_or_pos (val (x :: r)) with e | e
    · rw [e, natW_zero, (lowN_val h).2 e]; rfl
    · rw [natW_pos e]
      have e1 : val (x :: r) % 4294967296 = x.toNat := by simp only [val]; omega
      have e2 : val (x :: r) / 4294967296 = val r := by simp only [val]; omega
      rw [e1, e2, ← h2]
      have e3 : ((x.toNat : Nat) : Int) = x := by omega
      rw [e3]
      simp only [lowN]
      by_cases q : lowN r = 0
      · rw [if_pos q]
        have : x ≠ 0 := by
          intro hx
          simp only [val, h4.1 q, hx] at e
          simp at e
        rw [if_neg this, q]; rfl
      · rw [if_neg q]; rfl
theorem lowN_len {a : List Int} (h : Wds a) : lowN a = (natW (val a)).length := by
  rw [← take_lowN h, List.length_take, Nat.min_eq_left (lowN_le a)]
end Go.Ab.M
end

section
/-
  PLAIN LAW: NATURAL NUMBERS BY WORDS (words' operations; products).
-/
namespace Go.Ab.M
set_option linter.unusedVariables false
set_option linter.unusedSimpArgs false

theorem wrap32 (n : Int) : IntKind.wrap .u32 n = n % 4294967296 := rfl
theorem wrap64 (n : Int) : IntKind.wrap .u64 n = n % 18446744073709551616 := rfl
theorem inK_u64 {n : Int} (h1 : 0 ≤ n) (h2 : n < 18446744073709551616) : inK .u64 n = true := by
  unfold inK
  rw [decide_eq_true_eq]
  exact ⟨by simp only [lo]; omega, by simp only [hi]; omega⟩
theorem inK_u32 {n : Int} (h1 : 0 ≤ n) (h2 : n < 4294967296) : inK .u32 n = true := by
  unfold inK
  rw [decide_eq_true_eq]
  exact ⟨by simp only [lo]; omega, by simp only [hi]; omega⟩
theorem prod_lt {a b c d : Nat} (ha : a < 4294967296) (hb : b < 4294967296) (hc : c < 4294967296) (hd : d < 4294967296) : a * b + c + d < 18446744073709551616 := by
  have h : a * b ≤ 4294967295 * 4294967295 := Nat.mul_le_mul (by omega) (by omega)
  omega
theorem isWd_nat {n : Nat} (h : n < 4294967296) : isWd (n : Int) := ⟨by omega, by omega⟩
theorem Wds.nat {a : List Int} (h : Wds a) (i : Nat) : ∃ n : Nat, n < 4294967296 ∧ Go.Ab.nth a i = n := by
  have := h.nth i
  unfold isWd at this
  exact ⟨(Go.Ab.nth a i).toNat, by omega, by omega⟩

end Go.Ab.M
end

section
/-
  PLAIN LAW: NATURAL NUMBERS BY WORDS (bits; what is greater; differences).
-/
namespace Go.Ab.M
set_option linter.unusedVariables false
set_option linter.unusedSimpArgs false

theorem val_take_low {a : List Int} (h : Wds a) {n : Nat} (hn : lowN a ≤ n) : val (a.take n) = val a := by
  have h1 : val (a.take (lowN a)) = val a := by rw [take_lowN h, val_natW]
  have key : ∀ d, val (a.take (lowN a + d)) = val a := by
    intro d
    induction d with
    | zero => exact h1
    | succ d ih =>
      by_cases q : lowN a + d < a.length
      · rw [show lowN a + (d + 1) = (lowN a + d) + 1 by omega, val_take_succ q, ih, lowN_above a _ (by omega)]
        simp
      · rw [List.take_of_length_le (by omega)]
  have := key (n - lowN a)
  rwa [show lowN a + (n - lowN a) = n by omega] at this
theorem val_ge_pow {a : List Int} (h : Wds a) (hp : 0 < lowN a) : 4294967296 ^ (lowN a - 1) ≤ val a := by
  rw [← val_take_low h (Nat.le_refl (lowN a))]
  have hle := lowN_le a
  have e : lowN a = (lowN a - 1) + 1 := by omega
  rw [e, val_take_succ (by omega)]
  have h1 := lowN_at a hp
  have h2 := h.nth (lowN a - 1)
  unfold isWd at h2
  have : 4294967296 ^ (lowN a - 1) * 1 ≤ 4294967296 ^ (lowN a - 1) * (nth a (lowN a - 1)).toNat := Nat.mul_le_mul_left _ (by omega)
  simp only [Nat.add_sub_cancel]
  omega
def cmpN (m n : Nat) : Int := if m < n then -1 else if n < m then 1 else 0
theorem lt_of_low {a b : List Int} (ha : Wds a) (hb : Wds b) (h : lowN a < lowN b) : val a < val b := by
  have h1 := val_ge_pow hb (by omega)
  have h2 := val_lt (ha.take (lowN a))
  rw [val_take_low ha (Nat.le_refl _), List.length_take, Nat.min_eq_left (lowN_le a)] at h2
  have h3 : 4294967296 ^ lowN a ≤ 4294967296 ^ (lowN b - 1) := Nat.pow_le_pow_right (by decide) (by omega)
  omega
end Go.Ab.M
end

section
/-
  PLAIN LAW: NATURAL NUMBERS BY WORDS (differences; bits; division by a word).
-/
namespace Go.Ab.M
set_option linter.unusedVariables false
set_option linter.unusedSimpArgs false

theorem val_take_next (a : List Int) (i : Nat) : val (a.take (i + 1)) = val (a.take i) + 4294967296 ^ i * (nth a i).toNat := by
  by_cases h : i < a.length
  · exact val_take_succ h
  · have e : nth a i = 0 := by simp only [nth, List.getD, List.getElem?_eq_none (by omega : a.length ≤ i)]; rfl
    rw [List.take_of_length_le (by omega), List.take_of_length_le (by omega), e]; simp
/-! ### bits -/
theorem fdivu (n s : Nat) (hs : s < 32) : shrI .u32 (n : Int) (s : Int) = ((n / 2 ^ s : Nat) : Int) := by
  show (n : Int).fdiv (2 ^ min (s : Int).toNat 32) = _
  rw [show min (s : Int).toNat 32 = s by omega, Int.fdiv_eq_ediv_of_nonneg _ (Int.le_of_lt (Int.pow_pos (by decide)))]
  simp
end Go.Ab.M
end

section
/-
  PLAIN LAW: NATURAL NUMBERS BY WORDS (bits exactly; division).
-/
namespace Go.Ab.M
set_option linter.unusedVariables false
set_option linter.unusedSimpArgs false

theorem divmod_of {a d q r : Nat} (h : a = d * q + r) (hr : r < d) : a / d = q ∧ a % d = r := by
  subst h
  have hd : 0 < d := by omega
  exact ⟨by rw [Nat.mul_add_div hd, Nat.div_eq_of_lt hr, Nat.add_zero], by rw [Nat.mul_add_mod, Nat.mod_eq_of_lt hr]⟩
theorem drop_nth {α : Type} [Inhabited α] {l : List α} {j : Nat} (h : j < l.length) : l.drop j = nth l j :: l.drop (j + 1) := by
  rw [List.drop_eq_getElem_cons h, nth_get h]
/-! ### a number's words, place by place -/
theorem natW_nth (n i : Nat) : nth (natW n) i = ((n / 4294967296 ^ i % 4294967296 : Nat) : Int) := by
  induction i generalizing n with
  | zero =>
    rcases Nat.eq_zero_or_pos n with e | e
    · subst e; rw [natW_zero]; rfl
    · rw [natW_pos e]; simp [nth, List.getD]
  | succ i ih =>
    rcases Nat.eq_zero_or_pos n with e | e
    · subst e; rw [natW_zero]; simp [nth, List.getD]
    · rw [natW_pos e]
      have : nth ((((n % 4294967296 : Nat) : Int)) :: natW (n / 4294967296)) (i + 1) = nth (natW (n / 4294967296)) i := by simp [nth, List.getD]
      rw [this, ih, Nat.div_div_eq_div_mul, Nat.pow_succ, Nat.mul_comm]
theorem natW_lt (n : Nat) : n < 4294967296 ^ (natW n).length := by
  have := val_lt (natW_wds n)
  rwa [val_natW] at this
theorem natW_ge {n : Nat} (h : 0 < n) : 4294967296 ^ ((natW n).length - 1) ≤ n := by
  have h1 := lowN_len (natW_wds n)
  rw [val_natW] at h1
  have h2 : 0 < (natW n).length := List.length_pos_iff.2 fun e => by rw [natW_nil] at e; omega
  have := val_ge_pow (natW_wds n) (by omega)
  rwa [h1, val_natW] at this
theorem natW_lenpos {n : Nat} (h : 0 < n) : 0 < (natW n).length := List.length_pos_iff.2 fun e => by rw [natW_nil] at e; omega
theorem natW_le {a : List Int} (h : Wds a) : (natW (val a)).length ≤ a.length := by rw [← lowN_len h]; exact lowN_le a
theorem natW_mono {m n : Nat} (h : m ≤ n) : (natW m).length ≤ (natW n).length := natW_len (Nat.lt_of_le_of_lt h (natW_lt n))

/-! ### division -/
theorem powW_succ (k : Nat) : (4294967296 : Nat) ^ (k + 1) = 4294967296 ^ k * 4294967296 := by rw [Nat.pow_add, Nat.pow_one]
end Go.Ab.M
end

section
/-
  PLAIN LAW: NATURAL NUMBERS BY WORDS (long division; powers; the greatest common divisor; lowest terms).
-/
namespace Go.Ab.M
set_option linter.unusedVariables false
set_option linter.unusedSimpArgs false

/-! ### powers -/
/-! ### the greatest common divisor -/
/-- is a list of words right: without 0s at the end? -/
def isN (a : List Int) : Bool := lowN a == a.length
theorem isN_iff {a : List Int} (ha : Wds a) : isN a = true ↔ a = natW (val a) := by
  unfold isN
  rw [beq_iff_eq]
  constructor
  · intro h
    have := take_lowN ha
    rwa [h, List.take_length] at this
  · intro h
    have := lowN_len ha
    rw [this, ← h]
def isR (x : Rat) : Bool := isN x.Num && isN x.Den && decide (Nat.gcd (val x.Num) (val x.Den) = 1) && decide (0 < x.Den.length) && !(x.Neg && decide (x.Num.length = 0))
end Go.Ab.M
end
