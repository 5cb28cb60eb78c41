/-
  TEXTS PUT TOGETHER: PlN1, PlN2, PlN3, PlN4, PlN5, PlN6.
-/
import Derived.Test.YtpefcgiiigdcdaaGreatPA
import Derived.Test.YtpefcgiiigdcdaaGreatTC
section
/-
  PLAIN LAW: NATURAL NUMBERS BY WORDS (what a list of words comes to; words, without 0s at the end).
-/
namespace Go.Ab.M
set_option linter.unusedVariables false
set_option linter.unusedSimpArgs false

theorem nthset {α : Type} [Inhabited α] {l : List α} {i j : Nat} {x : α} (h : i < l.length) : nth (l.set i x) j = if j = i then x else nth l j := by
  simp only [nth, List.getD, List.getElem?_set]
  by_cases e : i = j
  · subst e; simp [h]
  · rw [if_neg e, if_neg (Ne.symm e)]
def isWd (x : Int) : Prop := 0 ≤ x ∧ x < 4294967296
def Wds (a : List Int) : Prop := ∀ x ∈ a, isWd x
theorem Wds.nth {a : List Int} (h : Wds a) (i : Nat) : isWd (nth a i) := by
  by_cases hi : i < a.length
  · exact h _ (nth_mem hi)
  · simp only [Go.Ab.nth, List.getD, List.getElem?_eq_none (by omega : a.length ≤ i)]; exact ⟨Int.le_refl 0, by decide⟩
theorem Wds.set {a : List Int} (h : Wds a) (i : Nat) {x : Int} (hx : isWd x) : Wds (a.set i x) := fun y hy => by
  rcases List.mem_or_eq_of_mem_set hy with h1 | h1
  · exact h y h1
  · rw [h1]; exact hx
theorem Wds.nil : Wds [] := fun x h => by cases h
theorem Wds.cons {a : List Int} {x : Int} (hx : isWd x) (h : Wds a) : Wds (x :: a) := fun y hy => by
  rcases List.mem_cons.1 hy with e | e
  · rw [e]; exact hx
  · exact h y e
theorem Wds.tail {a : List Int} {x : Int} (h : Wds (x :: a)) : isWd x ∧ Wds a := ⟨h x (by simp), fun y hy => h y (by simp [hy])⟩
theorem Wds.append {a b : List Int} (h : Wds a) (k : Wds b) : Wds (a ++ b) := fun y hy => by
  rcases List.mem_append.1 hy with e | e
  · exact h y e
  · exact k y e
theorem Wds.take {a : List Int} (h : Wds a) (n : Nat) : Wds (a.take n) := fun y hy => h y (List.mem_of_mem_take hy)
theorem Wds.zeros (n : Nat) : Wds (List.replicate n 0) := fun y hy => by rw [List.eq_of_mem_replicate hy]; exact ⟨Int.le_refl 0, by decide⟩

/-- what a list of words comes to -/
def val : List Int → Nat
  | [] => 0
  | x :: r => x.toNat + 4294967296 * val r
theorem val_append (a b : List Int) : val (a ++ b) = val a + 4294967296 ^ a.length * val b := by
  induction a with
  | nil => simp [val]
  | cons x r ih => simp only [List.cons_append, val, ih, List.length_cons, Nat.pow_succ]; grind
theorem val_lt {a : List Int} (h : Wds a) : val a < 4294967296 ^ a.length := by
  induction a with
  | nil => simp [val]
  | cons x r ih =>
    have h1 := h.tail
    have h2 := ih h1.2
    have h3 := h1.1
    unfold isWd at h3
    simp only [val, List.length_cons, Nat.pow_succ]
    omega
theorem val_zeros (n : Nat) : val (List.replicate n 0) = 0 := by
  induction n with
  | zero => rfl
  | succ n ih => simp [List.replicate_succ, val, ih]
theorem val_take_succ {a : List Int} {i : Nat} (h : i < a.length) : val (a.take (i + 1)) = val (a.take i) + 4294967296 ^ i * (nth a i).toNat := by
  rw [take_nth h, val_append]
  simp [val, Nat.min_eq_left (Nat.le_of_lt h)]
theorem val_set {a : List Int} {i : Nat} (h : i < a.length) (x : Int) : val (a.set i x) + 4294967296 ^ i * (nth a i).toNat = val a + 4294967296 ^ i * x.toNat := by
  induction a generalizing i with
  | nil => simp at h
  | cons y r ih =>
    cases i with
    | zero => simp [val, nth, List.getD]; omega
    | succ i =>
      have := ih (i := i) (by simpa using h)
      have e : nth (y :: r) (i + 1) = nth r i := by simp [nth, List.getD]
      simp only [List.set_cons_succ, val, e, Nat.pow_succ]
      grind

/-- a number's words -/
def natW (n : Nat) : List Int := if n = 0 then [] else ((n % 4294967296 : Nat) : Int) :: natW (n / 4294967296)
termination_by n
decreasing_by omega
theorem natW_zero : natW 0 = [] := by unfold natW; simp
theorem natW_pos {n : Nat} (h : 0 < n) : natW n = ((n % 4294967296 : Nat) : Int) :: natW (n / 4294967296) := by
  rw [natW, if_neg (by omega)]
theorem natW_wds (n : Nat) : Wds (natW n) := by
  induction n using Nat.strongRecOn with
  | _ n ih =>
    rcases Nat.eq_zero_or_pos n with h | h
    · subst h; rw [natW_zero]; exact Wds.nil
    · rw [natW_pos h]
      exact Wds.cons ⟨by omega, by omega⟩ (ih _ (by omega))
theorem val_natW (n : Nat) : val (natW n) = n := by
  induction n using Nat.strongRecOn with
  | _ n ih =>
    rcases Nat.eq_zero_or_pos n with h | h
    · subst h; rw [natW_zero]; rfl
    · rw [natW_pos h]
      simp only [val, ih _ (show n / 4294967296 < n by omega)]
      omega
theorem natW_len {n k : Nat} (h : n < 4294967296 ^ k) : (natW n).length ≤ k := by
  induction k generalizing n with
  | zero =>
    have : n = 0 := by simp at h; exact h
    subst this; rw [natW_zero]; simp
  | succ k ih =>
    rcases Nat.eq_zero_or_pos n with e | e
    · subst e; rw [natW_zero]; simp
    · rw [natW_pos e, List.length_cons]
      have := ih (n := n / 4294967296) (by rw [Nat.pow_succ] at h; omega)
      omega
theorem natW_inj {m n : Nat} (h : natW m = natW n) : m = n := by rw [← val_natW m, h, val_natW]
theorem natW_nil {n : Nat} : natW n = [] ↔ n = 0 := ⟨fun h => natW_inj (h.trans natW_zero.symm), fun h => by rw [h, natW_zero]⟩

/-- how many words there are, without 0s at the end -/
def lowN : List Int → Nat
  | [] => 0
  | x :: r => if lowN r = 0 then (if x = 0 then 0 else 1) else lowN r + 1
theorem lowN_le (a : List Int) : lowN a ≤ a.length := by
  induction a with
  | nil => simp [lowN]
  | cons x r ih => simp only [lowN, List.length_cons]; repeat' split
                   all_goals omega
theorem lowN_above (a : List Int) : ∀ i, lowN a ≤ i → nth a i = 0 := by
  induction a with
  | nil => intro i _; simp [nth, List.getD]
  | cons x r ih =>
    intro i hi
    simp only [lowN] at hi
    cases i with
    | zero =>
      have e : nth (x :: r) 0 = x := rfl
      rw [e]
      repeat' split at hi
      · assumption
      · omega
      · omega
    | succ i =>
      have e : nth (x :: r) (i + 1) = nth r i := by simp [nth, List.getD]
      rw [e]
      refine ih i ?_
      repeat' split at hi
      all_goals omega
theorem lowN_at (a : List Int) (h : 0 < lowN a) : nth a (lowN a - 1) ≠ 0 := by
  induction a with
  | nil => simp [lowN] at h
  | cons x r ih =>
    simp only [lowN] at h ⊢
    by_cases h1 : lowN r = 0
    · rw [if_pos h1] at h ⊢
      by_cases h2 : x = 0
      · rw [if_pos h2] at h; omega
      · rw [if_neg h2]; exact h2
    · rw [if_neg h1]
      have := ih (by omega)
      have e : nth (x :: r) (lowN r + 1 - 1) = nth r (lowN r - 1) := by
        have : lowN r + 1 - 1 = (lowN r - 1) + 1 := by omega
        rw [this]; simp [nth, List.getD]
      rw [e]; exact this
theorem lowN_val {a : List Int} (h : Wds a) : lowN a = 0 ↔ val a = 0 := by
  induction a with
  | nil => simp [lowN, val]
  | cons x r ih =>
    have h1 := h.tail
    have h2 := ih h1.2
    have h3 := h1.1
    unfold isWd at h3
    simp only [lowN, val]
    by_cases e : lowN r = 0
    · have := h2.1 e
      rw [if_pos e]
      by_cases e2 : x = 0
      · simp [e2, this]
      · simp [e2]; omega
    · have : val r ≠ 0 := fun q => e (h2.2 q)
      rw [if_neg e]
      constructor
      · intro q; omega
      · intro q; omega
theorem take_lowN {a : List Int} (h : Wds a) : a.take (lowN a) = natW (val a) := by
  induction a with
  | nil => simp [val, natW_zero]
  | cons x r ih =>
    have h1 := h.tail
    have h2 := ih h1.2
    have h3 := h1.1
    have h4 := lowN_val h1.2
    unfold isWd at h3
    rcases Nat.eq_zero_or_pos (val (x :: r)) with e | e
    · rw [e, natW_zero, (lowN_val h).2 e]; rfl
    · rw [natW_pos e]
      have e1 : val (x :: r) % 4294967296 = x.toNat := by simp only [val]; omega
      have e2 : val (x :: r) / 4294967296 = val r := by simp only [val]; omega
      rw [e1, e2, ← h2]
      have e3 : ((x.toNat : Nat) : Int) = x := by omega
      rw [e3]
      simp only [lowN]
      by_cases q : lowN r = 0
      · rw [if_pos q]
        have : x ≠ 0 := by
          intro hx
          simp only [val, h4.1 q, hx] at e
          simp at e
        rw [if_neg this, q]; rfl
      · rw [if_neg q]; rfl
theorem lowN_len {a : List Int} (h : Wds a) : lowN a = (natW (val a)).length := by
  rw [← take_lowN h, List.length_take, Nat.min_eq_left (lowN_le a)]
theorem limb_Low_eq (a : List Int) (hl : a.length ≤ 900000000) : limb_Low a = some (lowN a : Int) := by
  have hle := lowN_le a
  have h : limb_Low_l a ((a.length : Nat) : Int) = some (lowN a : Int) := by
    unfold limb_Low_l
    refine loop_run (round := fun σ : Int => limb_Low_l_rd a σ) (fun i => ((a.length - i : Nat) : Int)) (a.length - lowN a) (fun i hi => ?_) ?_ (by simp only [FU]; omega)
    · have e : (((a.length - i : Nat) : Int) - 1).toNat = a.length - i - 1 := by omega
      have z := lowN_above a (a.length - i - 1) (by omega)
      have e2 : (nth a (a.length - (i + 1)) == 0) = true := by rw [show a.length - (i + 1) = a.length - i - 1 by omega, z]; rfl
      have e3 : ((a.length - i : Nat) : Int) - 1 = ((a.length - (i + 1) : Nat) : Int) := by omega
      simp (disch := omega) only [limb_Low_l_rd, e3, Int.toNat_natCast, e2, Bool.cond_decide, if_t, inK_i64, cond_true]
    · have e0 : a.length - (a.length - lowN a) = lowN a := by omega
      simp only [e0]
      rcases Nat.eq_zero_or_pos (lowN a) with q | q
      · rw [q]; rfl
      · have e : ((lowN a : Int) - 1).toNat = lowN a - 1 := by omega
        have e2 : (nth a (lowN a - 1) == 0) = false := by
          have := lowN_at a q
          simpa using this
        simp (disch := omega) only [limb_Low_l_rd, e, e2, Bool.cond_decide, if_t, inK_i64, cond_true, cond_false]
  simp only [limb_Low, h, Option.bind_some]
theorem nat_Trim_eq {a : List Int} (h : Wds a) (hl : a.length ≤ 900000000) : nat_Trim a = some (natW (val a)) := by
  have hle := lowN_le a
  simp only [nat_Trim, limb_Low_eq a hl, Option.bind_some]
  rcases Nat.eq_zero_or_pos (lowN a) with q | q
  · have := (lowN_val h).1 q
    rw [this, natW_zero, q]; rfl
  · have e2 : (((lowN a : Nat) : Int) == 0) = false := by simp; omega
    have e3 : a.take (List.replicate (lowN a) (0 : Int)).length ++ (List.replicate (lowN a) (0 : Int)).drop a.length = natW (val a) := by
      rw [List.length_replicate, List.drop_eq_nil_of_le (by rw [List.length_replicate]; exact hle), List.append_nil, take_lowN h]
    simp (disch := omega) only [e2, cond_false, Bool.cond_decide, if_t, Int.toNat_natCast, e3]
end Go.Ab.M
end

section
/-
  PLAIN LAW: NATURAL NUMBERS BY WORDS (words' operations; products).
-/
namespace Go.Ab.M
set_option linter.unusedVariables false
set_option linter.unusedSimpArgs false

theorem wrap32 (n : Int) : IntKind.wrap .u32 n = n % 4294967296 := rfl
theorem wrap64 (n : Int) : IntKind.wrap .u64 n = n % 18446744073709551616 := rfl
theorem inK_u64 {n : Int} (h1 : 0 ≤ n) (h2 : n < 18446744073709551616) : inK .u64 n = true := by
  unfold inK
  rw [decide_eq_true_eq]
  exact ⟨by simp only [lo]; omega, by simp only [hi]; omega⟩
theorem inK_u32 {n : Int} (h1 : 0 ≤ n) (h2 : n < 4294967296) : inK .u32 n = true := by
  unfold inK
  rw [decide_eq_true_eq]
  exact ⟨by simp only [lo]; omega, by simp only [hi]; omega⟩
theorem fdiv32 (n : Nat) : shrI .u64 (n : Int) 32 = ((n / 4294967296 : Nat) : Int) := by
  show (n : Int).fdiv (2 ^ min (32 : Int).toNat 64) = _
  rw [show (2 : Int) ^ min (32 : Int).toNat 64 = ((4294967296 : Nat) : Int) by decide, Int.fdiv_eq_ediv_of_nonneg _ (by omega)]
  omega
theorem wide_eq {x y : Nat} (hx : x < 4294967296) (hy : y < 4294967296) : limb_wide [(x : Int), (y : Int)] = some ((x + y : Nat) : Int) := by
  have h0 : limb_wide_l_rd [(x : Int), (y : Int)] 0 0 = some (.inl ((x : Int), 1)) := by
    have e : nth [(x : Int), (y : Int)] 0 = x := rfl
    have e2 : IntKind.wrap .u64 (0 + (x : Int)) = x := by rw [wrap64]; omega
    simp (disch := omega) only [limb_wide_l_rd, e, e2, inK_u64, cond_true, List.length_cons, List.length_nil]
    rfl
  have h1 : limb_wide_l_rd [(x : Int), (y : Int)] (x : Int) 1 = some (.inl (((x + y : Nat) : Int), 2)) := by
    have e : nth [(x : Int), (y : Int)] 1 = y := rfl
    have e2 : IntKind.wrap .u64 ((x : Int) + (y : Int)) = ((x + y : Nat) : Int) := by rw [wrap64]; omega
    simp (disch := omega) only [limb_wide_l_rd, e, e2, inK_u64, cond_true, List.length_cons, List.length_nil]
    rfl
  have h2 : limb_wide_l_rd [(x : Int), (y : Int)] ((x + y : Nat) : Int) 2 = some (.inr ((x + y : Nat) : Int)) := rfl
  have : limb_wide_l [(x : Int), (y : Int)] 0 0 = some ((x + y : Nat) : Int) := by
    unfold limb_wide_l
    refine loop_run (round := fun σ : Int × Nat => limb_wide_l_rd [(x : Int), (y : Int)] σ.1 σ.2) (fun i => ((if i = 0 then 0 else if i = 1 then (x : Int) else ((x + y : Nat) : Int)), i)) 2 (fun i hi => ?_) h2 (by decide)
    match i, hi with
    | 0, _ => exact h0
    | 1, _ => exact h1
  simp only [limb_wide, this, Option.bind_some]
theorem parts_eq {n : Nat} (h : n < 18446744073709551616) : limb_parts (n : Int) = some (((n / 4294967296 : Nat) : Int), ((n % 4294967296 : Nat) : Int)) := by
  simp only [limb_parts, fdiv32, wrap32]
  have e1 : ((n / 4294967296 : Nat) : Int) % 4294967296 = ((n / 4294967296 : Nat) : Int) := by omega
  have e2 : (n : Int) % 4294967296 = ((n % 4294967296 : Nat) : Int) := by omega
  rw [e1, e2]
theorem prod_lt {a b c d : Nat} (ha : a < 4294967296) (hb : b < 4294967296) (hc : c < 4294967296) (hd : d < 4294967296) : a * b + c + d < 18446744073709551616 := by
  have h : a * b ≤ 4294967295 * 4294967295 := Nat.mul_le_mul (by omega) (by omega)
  omega
theorem limb_Mul_eq {a b c d : Nat} (ha : a < 4294967296) (hb : b < 4294967296) (hc : c < 4294967296) (hd : d < 4294967296) : limb_Mul (a : Int) (b : Int) (c : Int) (d : Int) = some ((((a * b + c + d) / 4294967296 : Nat) : Int), (((a * b + c + d) % 4294967296 : Nat) : Int)) := by
  have hp := prod_lt ha hb hc hd
  have e1 : IntKind.wrap .u64 ((a : Int) * (b : Int)) = ((a * b : Nat) : Int) := by
    rw [wrap64, ← Int.natCast_mul]; omega
  have e2 : IntKind.wrap .u64 (((a * b : Nat) : Int) + ((c + d : Nat) : Int)) = ((a * b + c + d : Nat) : Int) := by
    rw [wrap64]; omega
  simp (disch := omega) only [limb_Mul, inK_u64, cond_true, wide_eq hc hd, Option.bind_some, e1, e2, parts_eq hp]
theorem isWd_nat {n : Nat} (h : n < 4294967296) : isWd (n : Int) := ⟨by omega, by omega⟩
theorem Wds.nat {a : List Int} (h : Wds a) (i : Nat) : ∃ n : Nat, n < 4294967296 ∧ Go.Ab.nth a i = n := by
  have := h.nth i
  unfold isWd at this
  exact ⟨(Go.Ab.nth a i).toNat, by omega, by omega⟩

/-- a line of a product, from a place on -/
theorem line_gen {lo ln cap : Nat} {a : List Int} (ha : Wds a) {w : Nat} (hw : w < 4294967296) {c0 : Nat} (hc0 : c0 < 4294967296) {o : List Int} (ho : Wds o) (h1 : a.length < ln) (h2 : lo + ln ≤ o.length) (h3 : o.length ≤ 900000000) (rd : Int → Nat → List Int → Option ((Int × Nat × List Int) ⊕ (Int × List Int))) (hrd : ∀ c1 i out, out.length = o.length → rd c1 i out = times_line_l_3_rd lo ln cap a (w : Int) c1 i out) :
    ∃ r, loopN (fun (σ : Int × Nat × List Int) => rd σ.1 σ.2.1 σ.2.2) FU ((c0 : Int), 0, o) = some r ∧ (r.2.length = o.length ∧ Wds r.2 ∧ (∃ c : Nat, c < 4294967296 ∧ r.1 = c ∧ val r.2 + c * 4294967296 ^ (lo + a.length) = val o + (w * val a + c0) * 4294967296 ^ lo) ∧ ∀ j, lo + a.length ≤ j → nth r.2 j = nth o j) := by
  refine loop_inv (round := fun σ : Int × Nat × List Int => rd σ.1 σ.2.1 σ.2.2) (fun i σ => σ.2.1 = i ∧ σ.2.2.length = o.length ∧ Wds σ.2.2 ∧ (∃ c : Nat, c < 4294967296 ∧ σ.1 = c ∧ val σ.2.2 + c * 4294967296 ^ (lo + i) = val o + (w * val (a.take i) + c0) * 4294967296 ^ lo) ∧ ∀ j, lo + i ≤ j → nth σ.2.2 j = nth o j) a.length ((c0 : Int), 0, o) ⟨rfl, rfl, ho, ⟨c0, hc0, rfl, by simp [val]⟩, fun j _ => rfl⟩ ?_ ?_ (by simp only [FU]; omega)
  · rintro i ⟨c1, i', out⟩ hi ⟨q1, q2, q3, ⟨c, q4, q5, q6⟩, q7⟩
    simp only at q1 q2 q3 q5 q6 q7
    subst q1
    subst q5
    obtain ⟨x, x1, x2⟩ := ha.nat i'
    obtain ⟨y, y1, y2⟩ := q3.nat (lo + i')
    have hp := prod_lt x1 hw y1 q4
    have hm := limb_Mul_eq x1 hw y1 q4
    have hlt : lo + i' < out.length := by omega
    have hset := val_set hlt (((x * w + y + c) % 4294967296 : Nat) : Int)
    rw [y2] at hset
    simp only [Int.toNat_natCast] at hset
    refine ⟨((((x * w + y + c) / 4294967296 : Nat) : Int), i' + 1, out.set (lo + i') (((x * w + y + c) % 4294967296 : Nat) : Int)), ?_, rfl, by simp only [List.length_set]; exact q2, q3.set _ (isWd_nat (by omega)), ⟨(x * w + y + c) / 4294967296, by omega, rfl, ?_⟩, fun j hj => ?_⟩
    · rw [hrd _ _ _ q2]
      simp (disch := omega) only [times_line_l_3_rd, plus_eq, x2, y2, hm, Bool.cond_decide, if_t, Option.bind_some, inK_i64, cond_true]
    · simp only
      rw [val_take_succ hi, x2, Int.toNat_natCast]
      have e1 : (4294967296 : Nat) ^ (lo + (i' + 1)) = 4294967296 ^ (lo + i') * 4294967296 := by rw [← Nat.add_assoc, Nat.pow_succ]
      have e2 : (4294967296 : Nat) ^ (lo + i') = 4294967296 ^ lo * 4294967296 ^ i' := Nat.pow_add ..
      have hd := Nat.div_add_mod (x * w + y + c) 4294967296
      rw [e1]
      rw [e2] at q6 hset ⊢
      generalize (x * w + y + c) / 4294967296 = d at *
      generalize (x * w + y + c) % 4294967296 = m at *
      generalize val (out.set (lo + i') (m : Int)) = v' at *
      generalize (4294967296 : Nat) ^ lo = P at *
      generalize (4294967296 : Nat) ^ i' = Q at *
      generalize val (a.take i') = va at *
      generalize val out = vo at *
      grind
    · simp only
      rw [nthset hlt, if_neg (by omega)]
      exact q7 j (by omega)
  · rintro ⟨c1, i', out⟩ ⟨q1, q2, q3, ⟨c, q4, q5, q6⟩, q7⟩
    simp only at q1 q2 q3 q5 q6 q7
    subst q1
    refine ⟨(c1, out), by rw [hrd _ _ _ q2]; simp only [times_line_l_3_rd, Int.lt_irrefl, decide_false, cond_false], q2, q3, ⟨c, q4, q5, by rw [List.take_length] at q6; exact q6⟩, q7⟩
theorem line_3 {a : List Int} (ha : Wds a) {w : Nat} (hw : w < 4294967296) {c0 : Nat} (hc0 : c0 < 4294967296) {o : List Int} (ho : Wds o) {lo ln cap : Nat} (h1 : a.length < ln) (h2 : lo + ln ≤ o.length) (h3 : o.length ≤ 900000000) (h4 : nth o (lo + a.length) = 0) :
    ∃ r, times_line_3 o lo ln cap a (w : Int) (c0 : Int) = some r ∧ (r.length = o.length ∧ Wds r ∧ val r = val o + (w * val a + c0) * 4294967296 ^ lo) := by
  obtain ⟨⟨c1, out⟩, q1, q2, q3, ⟨c, q4, q5, q6⟩, q7⟩ := line_gen (cap := cap) ha hw hc0 ho h1 h2 h3 (fun c1 i out => times_line_l_3_rd lo ln cap a (w : Int) c1 i out) (fun _ _ _ _ => rfl)
  have q1 : times_line_l_3 lo ln cap a (w : Int) (c0 : Int) 0 o = some (c1, out) := q1
  simp only at q2 q3 q5 q6 q7
  subst q5
  have hlt : lo + a.length < out.length := by omega
  have hset := val_set hlt (c : Int)
  rw [q7 _ (Nat.le_refl _), h4] at hset
  simp only [Int.toNat_natCast, Int.toNat_zero, Nat.mul_zero, Nat.add_zero] at hset
  refine ⟨out.set (lo + a.length) (c : Int), ?_, by rw [List.length_set]; exact q2, q3.set _ (isWd_nat q4), by rw [hset, ← q6, Nat.mul_comm]⟩
  simp (disch := omega) only [times_line_3, q1, plus_eq, Bool.cond_decide, if_t, Option.bind_some]
theorem line_1 {a : List Int} (ha : Wds a) {w : Nat} (hw : w < 4294967296) {c0 : Nat} (hc0 : c0 < 4294967296) {o : List Int} (ho : Wds o) {cap : Nat} (h1 : a.length < o.length) (h3 : o.length ≤ 900000000) (h4 : nth o a.length = 0) :
    ∃ r, times_line o cap a (w : Int) (c0 : Int) = some r ∧ (r.length = o.length ∧ Wds r ∧ val r = val o + (w * val a + c0)) := by
  obtain ⟨⟨c1, out⟩, q1, q2, q3, ⟨c, q4, q5, q6⟩, q7⟩ := line_gen (lo := 0) (ln := o.length) (cap := cap) ha hw hc0 ho h1 (by omega) h3 (fun c1 i out => times_line_l_rd cap a (w : Int) c1 i out) (fun c1 i out hl => by simp only [times_line_l_rd, times_line_l_3_rd, plus_eq, Nat.zero_add, hl])
  have q1 : times_line_l cap a (w : Int) (c0 : Int) 0 o = some (c1, out) := q1
  simp only [Nat.zero_add, Nat.pow_zero, Nat.mul_one] at q2 q3 q5 q6 q7
  subst q5
  have hlt : a.length < out.length := by omega
  have hset := val_set hlt (c : Int)
  rw [q7 _ (Nat.le_refl _), h4] at hset
  simp only [Int.toNat_natCast, Int.toNat_zero, Nat.mul_zero, Nat.add_zero] at hset
  refine ⟨out.set a.length (c : Int), ?_, by rw [List.length_set]; exact q2, q3.set _ (isWd_nat q4), by rw [hset, ← q6, Nat.mul_comm]⟩
  simp (disch := omega) only [times_line, q1, Bool.cond_decide, if_t, Option.bind_some]
theorem times_One_eq {a : List Int} (ha : Wds a) {w c : Nat} (hw : w < 4294967296) (hc : c < 4294967296) (hl : a.length ≤ 800000000) : times_One a (w : Int) (c : Int) = some (natW (w * val a + c)) := by
  have hz : (List.replicate (a.length + 1) (0 : Int)).length = a.length + 1 := List.length_replicate
  obtain ⟨r, q1, q2, q3, q4⟩ := line_1 ha hw hc (Wds.zeros (a.length + 1)) (cap := a.length + 1) (by omega) (by omega) (by simp [nth, List.getD, List.getElem?_replicate])
  have ht := nat_Trim_eq q3 (by omega)
  rw [q4, val_zeros, Nat.zero_add] at ht
  simp (disch := omega) only [times_One, inK_i64, cond_true, Bool.cond_decide, if_t, q1, Option.bind_some, ht]
theorem val_above {a : List Int} (h : Wds a) {k j : Nat} (hv : val a < 4294967296 ^ k) (hj : k ≤ j) : nth a j = 0 := by
  have h1 := lowN_len h
  have h2 := natW_len hv
  exact lowN_above a j (by omega)
theorem times_Mul_eq {a b : List Int} (ha : Wds a) (hb : Wds b) (hl : a.length + b.length ≤ 800000000) : times_Mul a b = some (natW (val a * val b)) := by
  have hz : (List.replicate (a.length + b.length + 1) (0 : Int)).length = a.length + b.length + 1 := List.length_replicate
  have key : ∃ r, times_Mul_l a b 0 (List.replicate (a.length + b.length + 1) 0) = some r ∧ (r.length = a.length + b.length + 1 ∧ Wds r ∧ val r = val a * val b) := by
    unfold times_Mul_l
    refine loop_inv (round := fun σ : Nat × List Int => times_Mul_l_rd a b σ.1 σ.2) (fun i σ => σ.1 = i ∧ σ.2.length = a.length + b.length + 1 ∧ Wds σ.2 ∧ val σ.2 = val a * val (b.take i)) b.length (0, List.replicate (a.length + b.length + 1) 0) ⟨rfl, hz, Wds.zeros _, by rw [val_zeros]; simp [val]⟩ ?_ ?_ (by simp only [FU]; omega)
    · rintro i ⟨i', out⟩ hi ⟨q1, q2, q3, q4⟩
      simp only at q1 q2 q3 q4
      subst q1
      obtain ⟨y, y1, y2⟩ := hb.nat i'
      have hva := val_lt ha
      have hvb : val (b.take i') < 4294967296 ^ i' := by
        have := val_lt (hb.take i')
        rwa [List.length_take, Nat.min_eq_left (by omega)] at this
      have hv : val out < 4294967296 ^ (i' + a.length) := by
        rw [q4, Nat.pow_add, Nat.mul_comm]
        exact Nat.mul_lt_mul'' hvb hva
      obtain ⟨r, r1, r2, r3, r4⟩ := line_3 ha y1 (show 0 < 4294967296 by decide) q3 (lo := i') (ln := i' + a.length + 1 - i') (cap := i' + a.length + 1 - i') (by omega) (by omega) (by omega) (val_above q3 hv (Nat.le_refl _))
      refine ⟨(i' + 1, r), ?_, rfl, by simp only; omega, r3, ?_⟩
      · have e0 : ((0 : Nat) : Int) = 0 := rfl
        rw [e0] at r1
        have e1 : (decide ((i' + a.length) + 1 ≤ (i' + a.length) + 1) && decide ((i' + a.length) + 1 ≤ (a.length + b.length) + 1)) = true := by simp; omega
        simp (disch := omega) only [times_Mul_l_rd, y2, List.length_map, e1, r1, inK_i64, cond_true, Bool.cond_decide, if_t, Option.bind_some]
      · simp only
        rw [r4, q4, val_take_succ hi, y2, Int.toNat_natCast]
        grind
    · rintro ⟨i', out⟩ ⟨q1, q2, q3, q4⟩
      simp only at q1 q2 q3 q4
      subst q1
      exact ⟨out, by simp only [times_Mul_l_rd, Int.lt_irrefl, decide_false, cond_false], q2, q3, by rw [q4, List.take_length]⟩
  obtain ⟨r, q1, q2, q3, q4⟩ := key
  have ht := nat_Trim_eq q3 (by omega)
  rw [q4] at ht
  simp (disch := omega) only [times_Mul, inK_i64, cond_true, Bool.cond_decide, if_t, q1, Option.bind_some, ht]
theorem nat_Of_eq {n : Nat} (h : n < 18446744073709551616) : nat_Of (n : Int) = some (natW n) := by
  have hw : Wds [IntKind.wrap .u32 (n : Int), IntKind.wrap .u32 (shrI .u64 (n : Int) 32)] := by
    rw [fdiv32, wrap32, wrap32]
    exact Wds.cons ⟨by omega, by omega⟩ (Wds.cons ⟨by omega, by omega⟩ Wds.nil)
  have hv : val [IntKind.wrap .u32 (n : Int), IntKind.wrap .u32 (shrI .u64 (n : Int) 32)] = n := by
    rw [fdiv32, wrap32, wrap32]
    simp only [val]
    omega
  simp only [nat_Of, nat_Trim_eq hw (by simp), hv, Option.bind_some]
theorem shl_u32 {k : Nat} (h : k < 32) : shlI .u32 1 (k : Int) = ((2 ^ k : Nat) : Int) := by
  have e : min (k : Int).toNat IntKind.u32.bits = k := by show min (k : Int).toNat 32 = k; omega
  simp only [shlI, e, Int.one_mul]
  have h2 : (2 : Nat) ^ k < 2 ^ 32 := Nat.pow_lt_pow_right (by omega) h
  have h3 : ((2 : Int) ^ k) = ((2 ^ k : Nat) : Int) := by simp
  rw [h3, wrap32]
  generalize (2 : Nat) ^ k = m at *
  omega
theorem times_Shift_eq {a : List Int} (ha : Wds a) {n : Nat} (hn : n ≤ 100000) (hl : a.length ≤ 700000000) : times_Shift a (n : Int) = some (natW (val a * 2 ^ n)) := by
  have e1 : mnI (n : Int) 100000 = n := by show (bif false then _ else if (100000 : Int) < n then (100000 : Int) else (n : Int)) = n; rw [cond_false, if_neg (by omega)]
  have e2 : mxI 0 (n : Int) = n := by
    show (bif true then if (n : Int) > 0 then (n : Int) else 0 else _) = (n : Int)
    rw [cond_true]; split <;> omega
  have e3 : (n : Int) / 32 = ((n / 32 : Nat) : Int) := by omega
  have e4 : (n : Int) % 32 = ((n % 32 : Nat) : Int) := by omega
  have hp : (2 : Nat) ^ (n % 32) < 2 ^ 32 := Nat.pow_lt_pow_right (by omega) (by omega)
  have h1 := times_One_eq ha (w := 2 ^ (n % 32)) (c := 0) hp (by decide) (by omega)
  rw [Nat.add_zero] at h1
  have e0 : ((0 : Nat) : Int) = 0 := rfl
  rw [e0] at h1
  have hlen : (natW (2 ^ (n % 32) * val a)).length ≤ a.length + 1 := by
    refine natW_len ?_
    have := val_lt ha
    rw [Nat.pow_succ, Nat.mul_comm]
    exact Nat.mul_lt_mul'' this hp
  have hz : (List.replicate (n / 32) (0 : Int)).length = n / 32 := List.length_replicate
  have ht := nat_Trim_eq (a := List.replicate (n / 32) 0 ++ natW (2 ^ (n % 32) * val a)) (Wds.append (Wds.zeros _) (natW_wds _)) (by rw [List.length_append]; omega)
  have hv : val (List.replicate (n / 32) 0 ++ natW (2 ^ (n % 32) * val a)) = val a * 2 ^ n := by
    rw [val_append, val_zeros, val_natW, hz, Nat.zero_add]
    have h32 : (4294967296 : Nat) = 2 ^ 32 := by decide
    rw [h32, ← Nat.pow_mul, ← Nat.mul_assoc, ← Nat.pow_add, Nat.mul_comm, Nat.div_add_mod]
  rw [hv] at ht
  have e5 : (n : Int) ≤ Go.Ab.hi .i64 := by simp only [hi]; omega
  simp (disch := omega) only [times_Shift, if_true, e1, e2, e3, e4, e5, shl_u32, h1, hz, Int.toNat_natCast, inK_i64, cond_true, Bool.cond_decide, if_t, Option.bind_some, ht]
end Go.Ab.M
end

section
/-
  PLAIN LAW: NATURAL NUMBERS BY WORDS (bits; what is greater; differences).
-/
namespace Go.Ab.M
set_option linter.unusedVariables false
set_option linter.unusedSimpArgs false

/-- the first place from above at which two lists part tells which one is more -/
theorem val_lt_of {a b : List Int} (ha : Wds a) (hb : Wds b) {k n : Nat} (hk : k < n) (h1 : n ≤ a.length) (h2 : n ≤ b.length) (h : ∀ i, k < i → i < n → nth a i = nth b i) (hlt : nth a k < nth b k) : val (a.take n) < val (b.take n) := by
  have key : ∀ d, k + 1 + d ≤ n → val (a.take (k + 1 + d)) < val (b.take (k + 1 + d)) := by
    intro d
    induction d with
    | zero =>
      intro _
      simp only [Nat.add_zero]
      rw [val_take_succ (by omega), val_take_succ (by omega)]
      have l1 := val_lt (ha.take k)
      rw [List.length_take, Nat.min_eq_left (by omega)] at l1
      have p1 := ha.nth k
      have p2 := hb.nth k
      unfold isWd at p1 p2
      have : 4294967296 ^ k * (nth a k).toNat + 4294967296 ^ k ≤ 4294967296 ^ k * (nth b k).toNat := by
        rw [← Nat.mul_succ]
        exact Nat.mul_le_mul_left _ (by omega)
      omega
    | succ d ih =>
      intro q
      have i1 := ih (by omega)
      have e := h (k + 1 + d) (by omega) (by omega)
      rw [show k + 1 + (d + 1) = (k + 1 + d) + 1 by omega, val_take_succ (by omega), val_take_succ (by omega), e]
      omega
  have := key (n - (k + 1)) (by omega)
  rwa [show k + 1 + (n - (k + 1)) = n by omega] at this
theorem val_take_low {a : List Int} (h : Wds a) {n : Nat} (hn : lowN a ≤ n) : val (a.take n) = val a := by
  have h1 : val (a.take (lowN a)) = val a := by rw [take_lowN h, val_natW]
  have key : ∀ d, val (a.take (lowN a + d)) = val a := by
    intro d
    induction d with
    | zero => exact h1
    | succ d ih =>
      by_cases q : lowN a + d < a.length
      · rw [show lowN a + (d + 1) = (lowN a + d) + 1 by omega, val_take_succ q, ih, lowN_above a _ (by omega)]
        simp
      · rw [List.take_of_length_le (by omega)]
  have := key (n - lowN a)
  rwa [show lowN a + (n - lowN a) = n by omega] at this
theorem val_ge_pow {a : List Int} (h : Wds a) (hp : 0 < lowN a) : 4294967296 ^ (lowN a - 1) ≤ val a := by
  rw [← val_take_low h (Nat.le_refl (lowN a))]
  have hle := lowN_le a
  have e : lowN a = (lowN a - 1) + 1 := by omega
  rw [e, val_take_succ (by omega)]
  have h1 := lowN_at a hp
  have h2 := h.nth (lowN a - 1)
  unfold isWd at h2
  have : 4294967296 ^ (lowN a - 1) * 1 ≤ 4294967296 ^ (lowN a - 1) * (nth a (lowN a - 1)).toNat := Nat.mul_le_mul_left _ (by omega)
  simp only [Nat.add_sub_cancel]
  omega
def cmpN (m n : Nat) : Int := if m < n then -1 else if n < m then 1 else 0
theorem compare32 (x y : Int) : cmp_Compare_uint32 x y = some (if x < y then -1 else if y < x then 1 else 0) := by
  simp only [cmp_Compare_uint32, cmp_isNaN_uint32, Option.bind_some, bne_self_eq_false, cond_false, Bool.cond_decide]
  repeat' split
  all_goals first | rfl | omega
theorem compareI (x y : Int) : cmp_Compare_int x y = some (if x < y then -1 else if y < x then 1 else 0) := by
  simp only [cmp_Compare_int, cmp_isNaN_int, Option.bind_some, bne_self_eq_false, cond_false, Bool.cond_decide]
  repeat' split
  all_goals first | rfl | omega
theorem lt_of_low {a b : List Int} (ha : Wds a) (hb : Wds b) (h : lowN a < lowN b) : val a < val b := by
  have h1 := val_ge_pow hb (by omega)
  have h2 := val_lt (ha.take (lowN a))
  rw [val_take_low ha (Nat.le_refl _), List.length_take, Nat.min_eq_left (lowN_le a)] at h2
  have h3 : 4294967296 ^ lowN a ≤ 4294967296 ^ (lowN b - 1) := Nat.pow_le_pow_right (by decide) (by omega)
  omega
theorem nat_Cmp_eq {a b : List Int} (ha : Wds a) (hb : Wds b) (hl : a.length ≤ 900000000) (hl2 : b.length ≤ 900000000) : nat_Cmp a b = some (cmpN (val a) (val b)) := by
  have hle := lowN_le a
  have hle2 := lowN_le b
  simp only [nat_Cmp, limb_Low_eq a hl, limb_Low_eq b hl2, Option.bind_some, compareI]
  by_cases h1 : lowN a < lowN b
  · have := lt_of_low ha hb h1
    rw [if_pos (by omega)]
    simp [cmpN, this]
  · by_cases h2 : lowN b < lowN a
    · have := lt_of_low hb ha h2
      rw [if_neg (by omega), if_pos (by omega)]
      have h3 : ¬ val a < val b := by omega
      simp [cmpN, this, h3]
    · rw [if_neg (by omega), if_neg (by omega)]
      have e : lowN a = lowN b := by omega
      have ea : val a = val (a.take (lowN a)) := (val_take_low ha (Nat.le_refl _)).symm
      have eb : val b = val (b.take (lowN a)) := (val_take_low hb (by omega)).symm
      have hnb : lowN a ≤ b.length := by omega
      have key : ∃ r, nat_Cmp_l a b ((lowN a : Nat) : Int) 0 = some r ∧ r = (if val a < val b then .inl (-1) else if val b < val a then .inl 1 else .inr ()) := by
        unfold nat_Cmp_l
        rw [ea, eb]
        generalize lowN a = n at *
        clear e ea eb h1 h2
        -- the first place from above at which they part
        by_cases hall : ∀ i, i < n → nth a i = nth b i
        · have ev : val (a.take n) = val (b.take n) := by
            have : ∀ m, m ≤ n → val (a.take m) = val (b.take m) := by
              intro m
              induction m with
              | zero => intro _; simp
              | succ m ih => intro hm; rw [val_take_succ (by omega), val_take_succ (by omega), ih (by omega), hall m (by omega)]
            exact this n (Nat.le_refl _)
          refine ⟨_, loop_run (round := fun σ : Nat => nat_Cmp_l_rd a b (n : Int) σ) (fun i => i) n (r := .inr ()) (fun i hi => ?_) ?_ (by simp only [FU]; omega), ?_⟩
          · have e1 : ((n : Int) - 1 - (i : Int)).toNat = n - 1 - i := by omega
            have e2 := hall (n - 1 - i) (by omega)
            have e3 : ¬ nth b (n - 1 - i) < nth b (n - 1 - i) := Int.lt_irrefl _
            simp (disch := omega) only [nat_Cmp_l_rd, e1, e2, compare32, if_neg e3, Option.bind_some, bne_self_eq_false, cond_false, Bool.cond_decide, if_t, inK_i64, cond_true]
          · simp only [nat_Cmp_l_rd, Int.lt_irrefl, decide_false, cond_false]
          · rw [ev]; simp
        · obtain ⟨k, k1, k2, k3⟩ : ∃ k, k < n ∧ nth a k ≠ nth b k ∧ ∀ i, k < i → i < n → nth a i = nth b i := by
            have : ∀ m, m ≤ n → (∃ k, k < n ∧ nth a k ≠ nth b k ∧ ∀ i, k < i → i < n → nth a i = nth b i) ∨ ∀ i, n - m ≤ i → i < n → nth a i = nth b i := by
              intro m
              induction m with
              | zero => intro _; exact .inr fun i h1 h2 => by omega
              | succ m ih =>
                intro hm
                rcases ih (by omega) with h | h
                · exact .inl h
                · by_cases q : nth a (n - (m + 1)) = nth b (n - (m + 1))
                  · refine .inr fun i h1 h2 => ?_
                    by_cases e : i = n - (m + 1)
                    · rw [e]; exact q
                    · exact h i (by omega) h2
                  · exact .inl ⟨n - (m + 1), by omega, q, fun i h1 h2 => h i (by omega) h2⟩
            rcases this n (Nat.le_refl _) with h | h
            · exact h
            · exact (hall fun i hi => h i (by omega) hi).elim
          have run : nat_Cmp_l_rd a b (n : Int) (n - 1 - k) = some (.inr (.inl (if nth a k < nth b k then -1 else if nth b k < nth a k then 1 else 0))) := by
            have e1 : ((n : Int) - 1 - ((n - 1 - k : Nat) : Int)).toNat = k := by omega
            have e2 : ((if nth a k < nth b k then (-1 : Int) else if nth b k < nth a k then 1 else 0) != 0) = true := by
              by_cases q : nth a k < nth b k
              · rw [if_pos q]; rfl
              · rw [if_neg q, if_pos (by omega)]; rfl
            have e4 := compare32 (nth a k) (nth b k)
            generalize (if nth a k < nth b k then (-1 : Int) else if nth b k < nth a k then 1 else 0) = x at *
            simp (disch := omega) only [nat_Cmp_l_rd, e1, e4, Option.bind_some, e2, Bool.cond_decide, if_t, inK_i64, cond_true]
          refine ⟨_, loop_run (round := fun σ : Nat => nat_Cmp_l_rd a b (n : Int) σ) (fun i => i) (n - 1 - k) (fun i hi => ?_) run (by simp only [FU]; omega), ?_⟩
          · have e1 : ((n : Int) - 1 - (i : Int)).toNat = n - 1 - i := by omega
            have e2 := k3 (n - 1 - i) (by omega) (by omega)
            have e3 : ¬ nth b (n - 1 - i) < nth b (n - 1 - i) := Int.lt_irrefl _
            simp (disch := omega) only [nat_Cmp_l_rd, e1, e2, compare32, if_neg e3, Option.bind_some, bne_self_eq_false, cond_false, Bool.cond_decide, if_t, inK_i64, cond_true]
          · by_cases q : nth a k < nth b k
            · have := val_lt_of ha hb k1 (by omega) (by omega) k3 q
              rw [if_pos q, if_pos this]
            · have := val_lt_of hb ha k1 (by omega) (by omega) (fun i h1 h2 => (k3 i h1 h2).symm) (show nth b k < nth a k by omega)
              rw [if_neg q, if_pos (by omega), if_neg (by omega), if_pos this]
      obtain ⟨r, r1, r2⟩ := key
      simp only [r1, Option.bind_some, bne_self_eq_false, cond_false, r2, cmpN]
      by_cases q1 : val a < val b
      · simp [q1]
      · by_cases q2 : val b < val a
        · simp [q1, q2]
        · simp [q1, q2]
end Go.Ab.M
end

section
/-
  PLAIN LAW: NATURAL NUMBERS BY WORDS (differences; bits; division by a word).
-/
namespace Go.Ab.M
set_option linter.unusedVariables false
set_option linter.unusedSimpArgs false

theorem val_take_next (a : List Int) (i : Nat) : val (a.take (i + 1)) = val (a.take i) + 4294967296 ^ i * (nth a i).toNat := by
  by_cases h : i < a.length
  · exact val_take_succ h
  · have e : nth a i = 0 := by simp only [nth, List.getD, List.getElem?_eq_none (by omega : a.length ≤ i)]; rfl
    rw [List.take_of_length_le (by omega), List.take_of_length_le (by omega), e]; simp
theorem wide1_eq {x : Nat} (hx : x < 4294967296) : limb_wide [(x : Int)] = some (x : Int) := by
  have h0 : limb_wide_l_rd [(x : Int)] 0 0 = some (.inl ((x : Int), 1)) := by
    have e : nth [(x : Int)] 0 = x := rfl
    have e2 : IntKind.wrap .u64 (0 + (x : Int)) = x := by rw [wrap64]; omega
    simp (disch := omega) only [limb_wide_l_rd, e, e2, inK_u64, cond_true, List.length_cons, List.length_nil]
    rfl
  have h1 : limb_wide_l_rd [(x : Int)] (x : Int) 1 = some (.inr (x : Int)) := rfl
  have : limb_wide_l [(x : Int)] 0 0 = some (x : Int) := by
    unfold limb_wide_l
    refine loop_run (round := fun σ : Int × Nat => limb_wide_l_rd [(x : Int)] σ.1 σ.2) (fun i => ((if i = 0 then 0 else (x : Int)), i)) 1 (fun i hi => ?_) h1 (by decide)
    match i, hi with
    | 0, _ => exact h0
  simp only [limb_wide, this, Option.bind_some]
theorem limb_Sub_eq {a b c : Nat} (ha : a < 4294967296) (hb : b < 4294967296) (hc : c ≤ 1) : ∃ d o : Nat, limb_Sub (a : Int) (b : Int) (c : Int) = some ((d : Int), (o : Int)) ∧ d < 4294967296 ∧ o ≤ 1 ∧ d + b + c = a + 4294967296 * o := by
  have hw := wide_eq hb (show c < 4294967296 by omega)
  obtain ⟨d, hd⟩ : ∃ d, d = (a + 2 * 4294967296 - (b + c)) % 4294967296 := ⟨_, rfl⟩
  have e1 : IntKind.wrap .u32 (IntKind.wrap .u64 ((a : Int) - ((b + c : Nat) : Int))) = (d : Int) := by rw [wrap32, wrap64, hd]; omega
  have e2 : IntKind.wrap .u64 ((d : Int) + ((b + c : Nat) : Int)) = ((d + (b + c) : Nat) : Int) := by rw [wrap64]; omega
  refine ⟨d, (d + (b + c)) / 4294967296, ?_, by omega, by omega, by omega⟩
  simp (disch := omega) only [limb_Sub, hw, Option.bind_some, inK_u64, cond_true, e1, wide1_eq (show d < 4294967296 by omega), e2, parts_eq]
theorem nat_at_eq (a : List Int) (i : Nat) : nat_at a (i : Int) = some (nth a i) := by
  by_cases h : i < a.length
  · simp (disch := omega) only [nat_at, Int.toNat_natCast, Bool.cond_decide, if_t]
  · have e : nth a i = 0 := by simp only [nth, List.getD, List.getElem?_eq_none (by omega : a.length ≤ i)]; rfl
    have e2 : ¬ ((i : Int) < (a.length : Int)) := by omega
    simp only [nat_at, Bool.cond_decide, if_neg e2, e]
theorem nat_Sub_eq {a b : List Int} (ha : Wds a) (hb : Wds b) (hl : a.length ≤ 900000000) (hl2 : b.length ≤ 900000000) : nat_Sub a b = some (if val a < val b then ([], false) else (natW (val a - val b), true)) := by
  have hle := lowN_le a
  simp only [nat_Sub, nat_Cmp_eq ha hb hl hl2, Option.bind_some]
  by_cases h : val a < val b
  · simp [cmpN, h]
  · have e0 : ¬ cmpN (val a) (val b) < 0 := by unfold cmpN; rw [if_neg h]; split <;> omega
    have hz : (List.replicate (lowN a) (0 : Int)).length = lowN a := List.length_replicate
    have hvb : val (b.take (lowN a)) = val b := by
      refine val_take_low hb ?_
      rcases Nat.lt_or_ge (lowN a) (lowN b) with q | q
      · have := lt_of_low ha hb q; omega
      · exact q
    have hva : val (a.take (lowN a)) = val a := val_take_low ha (Nat.le_refl _)
    have key : ∃ r, nat_Sub_l a b ((lowN a : Nat) : Int) 0 0 (List.replicate (lowN a) 0) = some r ∧ (r.length = lowN a ∧ Wds r ∧ val r = val a - val b) := by
      unfold nat_Sub_l
      refine loop_inv (round := fun σ : Int × Nat × List Int => nat_Sub_l_rd a b ((lowN a : Nat) : Int) σ.1 σ.2.1 σ.2.2) (fun i σ => σ.2.1 = i ∧ σ.2.2.length = lowN a ∧ Wds σ.2.2 ∧ (∀ j, i ≤ j → nth σ.2.2 j = 0) ∧ ∃ o : Nat, o ≤ 1 ∧ σ.1 = o ∧ val σ.2.2 + val (b.take i) = val (a.take i) + 4294967296 ^ i * o) (lowN a) (0, 0, List.replicate (lowN a) 0) ⟨rfl, hz, Wds.zeros _, fun j _ => by simp only [nth, List.getD, List.getElem?_replicate]; split <;> rfl, 0, by omega, rfl, by rw [val_zeros]; simp [val]⟩ ?_ ?_ (by simp only [FU]; omega)
      · rintro i ⟨bo, i', out⟩ hi ⟨q1, q2, q3, q4, o, q5, q6, q7⟩
        simp only at q1 q2 q3 q4 q6 q7
        subst q1
        subst q6
        obtain ⟨x, x1, x2⟩ := ha.nat i'
        obtain ⟨y, y1, y2⟩ := hb.nat i'
        obtain ⟨d, o', s1, s2, s3, s4⟩ := limb_Sub_eq x1 y1 q5
        have hlt : i' < out.length := by omega
        have hset := val_set hlt (d : Int)
        rw [q4 i' (Nat.le_refl _)] at hset
        simp only [Int.toNat_natCast, Int.toNat_zero, Nat.mul_zero, Nat.add_zero] at hset
        refine ⟨((o' : Int), i' + 1, out.set i' (d : Int)), ?_, rfl, by simp only [List.length_set]; exact q2, q3.set _ (isWd_nat s2), fun j hj => ?_, o', s3, rfl, ?_⟩
        · simp (disch := omega) only [nat_Sub_l_rd, nat_at_eq, x2, y2, s1, Bool.cond_decide, if_t, Option.bind_some, inK_i64, cond_true]
        · simp only
          rw [nthset hlt, if_neg (by omega)]
          exact q4 j (by omega)
        · simp only
          rw [val_take_next, val_take_next, x2, y2, Int.toNat_natCast, Int.toNat_natCast, hset, Nat.pow_succ]
          generalize (4294967296 : Nat) ^ i' = P at *
          generalize val (a.take i') = va at *
          generalize val (b.take i') = vb at *
          generalize val out = vo at *
          have e : P * d + P * y + P * o = P * x + P * 4294967296 * o' := by
            have : P * (d + y + o) = P * (x + 4294967296 * o') := by rw [s4]
            grind
          omega
      · rintro ⟨bo, i', out⟩ ⟨q1, q2, q3, q4, o, q5, q6, q7⟩
        simp only at q1 q2 q3 q4 q6 q7
        subst q1
        rw [hva, hvb] at q7
        refine ⟨out, by simp only [nat_Sub_l_rd, Int.lt_irrefl, decide_false, cond_false], q2, q3, ?_⟩
        have h1 := val_lt q3
        rw [q2] at h1
        have : o = 0 := by
          rcases Nat.eq_zero_or_pos o with e | e
          · exact e
          · have : o = 1 := by omega
            rw [this] at q7; omega
        rw [this] at q7
        omega
    obtain ⟨r, r1, r2, r3, r4⟩ := key
    have ht := nat_Trim_eq r3 (by omega)
    rw [r4] at ht
    simp (disch := omega) only [Bool.cond_decide, if_neg e0, limb_Low_eq a hl, Option.bind_some, Int.toNat_natCast, if_t, r1, ht, if_neg h]

/-! ### bits -/
def tab (k : Nat) : Nat := (strc0.get! k).toNat
def tabOk (k : Nat) : Bool := decide (k < 2 ^ tab k) && decide (tab k ≤ 8) && (bif k == 0 then tab k == 0 else decide (2 ^ (tab k - 1) ≤ k) && decide (0 < tab k))
set_option maxRecDepth 100000 in
theorem tab_all : (List.range 256).all tabOk = true := by kernel_rfl
theorem tab_eq {k : Nat} (h : k < 256) : k < 2 ^ tab k ∧ tab k ≤ 8 ∧ (k = 0 → tab k = 0) ∧ (0 < k → 2 ^ (tab k - 1) ≤ k ∧ 0 < tab k) := by
  have := List.all_eq_true.1 tab_all k (by simpa using h)
  simp only [tabOk, Bool.and_eq_true, decide_eq_true_eq] at this
  obtain ⟨⟨h1, h2⟩, h3⟩ := this
  refine ⟨h1, h2, fun e => ?_, fun e => ?_⟩
  · subst e; simpa using h3
  · have e0 : (k == 0) = false := by simp; omega
    rw [e0] at h3
    simpa using h3
theorem strc0_size : strc0.size = 256 := by kernel_rfl
theorem fdivu (n s : Nat) (hs : s < 32) : shrI .u32 (n : Int) (s : Int) = ((n / 2 ^ s : Nat) : Int) := by
  show (n : Int).fdiv (2 ^ min (s : Int).toNat 32) = _
  rw [show min (s : Int).toNat 32 = s by omega, Int.fdiv_eq_ediv_of_nonneg _ (Int.le_of_lt (Int.pow_pos (by decide)))]
  simp
theorem wrap8 (n : Int) : IntKind.wrap .u8 n = n % 256 := rfl
/-- r is how many bits n has -/
def Bl (n r : Nat) : Prop := n < 2 ^ r ∧ (n = 0 → r = 0) ∧ (0 < n → 0 < r ∧ 2 ^ (r - 1) ≤ n)
theorem Bl.up {n y s t : Nat} (h : Bl y t) (hy : 0 < y) (hn : y = n / 2 ^ s) : Bl n (s + t) := by
  obtain ⟨h1, h2, h3⟩ := h
  obtain ⟨h4, h5⟩ := h3 hy
  have hp : 0 < 2 ^ s := Nat.two_pow_pos s
  have hn0 : 0 < n := by
    rcases Nat.eq_zero_or_pos n with e | e
    · subst e; simp at hn; omega
    · exact e
  refine ⟨?_, fun e => by omega, fun _ => ⟨by omega, ?_⟩⟩
  · rw [hn] at h1
    have := (Nat.div_lt_iff_lt_mul hp).1 h1
    rw [Nat.pow_add, Nat.mul_comm]; exact this
  · rw [show s + t - 1 = (t - 1) + s by omega, Nat.pow_add]
    have : 2 ^ (t - 1) * 2 ^ s ≤ n / 2 ^ s * 2 ^ s := Nat.mul_le_mul_right _ (by rw [← hn]; exact h5)
    exact Nat.le_trans this (Nat.div_mul_le_self _ _)
theorem tab_bl {k : Nat} (h : k < 256) : Bl k (tab k) := by
  obtain ⟨h1, h2, h3, h4⟩ := tab_eq h
  exact ⟨h1, h3, fun e => ⟨(h4 e).2, (h4 e).1⟩⟩
theorem limb_Bits_eq {n : Nat} (hn : n < 4294967296) : ∃ r : Nat, limb_Bits (n : Int) = some (r : Int) ∧ r ≤ 32 ∧ Bl n r := by
  have e8 : shrI .u32 (n : Int) 8 = ((n / 256 : Nat) : Int) := fdivu n 8 (by omega)
  have e16 : shrI .u32 (n : Int) 16 = ((n / 65536 : Nat) : Int) := fdivu n 16 (by omega)
  have e24 : shrI .u32 ((n / 65536 : Nat) : Int) 8 = ((n / 65536 / 256 : Nat) : Int) := fdivu (n / 65536) 8 (by omega)
  have w24 : IntKind.wrap .u8 ((n / 65536 / 256 : Nat) : Int) = ((n / 65536 / 256 : Nat) : Int) := by rw [wrap8]; omega
  have t : ∀ k, k < 256 → ((strc0.get! k).toNat : Int) = (tab k : Int) := fun k _ => rfl
  have tl : ∀ k, k < 256 → tab k ≤ 8 := fun k h => (tab_eq h).2.1
  by_cases h1 : n ≥ 65536
  · by_cases h2 : n / 65536 ≥ 256
    · have hk : n / 65536 / 256 < 256 := by omega
      have hb := (tab_bl hk).up (n := n) (s := 24) (by omega) (by rw [Nat.div_div_eq_div_mul])
      have hl := tl _ hk
      refine ⟨24 + tab (n / 65536 / 256), ?_, by omega, hb⟩
      simp (disch := omega) only [limb_Bits, math_bits_Len32, e16, e24, w24, Int.toNat_natCast, strc0_size, t _ hk, Bool.cond_decide, if_t, inK_i64, cond_true, Option.bind_some]
      rfl
    · have w16 : IntKind.wrap .u8 ((n / 65536 : Nat) : Int) = ((n / 65536 : Nat) : Int) := by rw [wrap8]; omega
      have hk : n / 65536 < 256 := by omega
      have hb := (tab_bl hk).up (n := n) (s := 16) (by omega) rfl
      have hl := tl _ hk
      have e : ¬ (((n / 65536 : Nat) : Int) ≥ 256) := by omega
      refine ⟨16 + tab (n / 65536), ?_, by omega, hb⟩
      simp (disch := omega) only [limb_Bits, math_bits_Len32, e16, w16, if_neg e, Int.toNat_natCast, strc0_size, t _ hk, Bool.cond_decide, if_t, inK_i64, cond_true, Option.bind_some]
      rfl
  · have e : ¬ ((n : Int) ≥ 65536) := by omega
    by_cases h2 : n ≥ 256
    · have w8 : IntKind.wrap .u8 ((n / 256 : Nat) : Int) = ((n / 256 : Nat) : Int) := by rw [wrap8]; omega
      have hk : n / 256 < 256 := by omega
      have hb := (tab_bl hk).up (n := n) (s := 8) (by omega) rfl
      have hl := tl _ hk
      refine ⟨8 + tab (n / 256), ?_, by omega, hb⟩
      simp (disch := omega) only [limb_Bits, math_bits_Len32, e8, w8, if_neg e, Int.toNat_natCast, strc0_size, t _ hk, Bool.cond_decide, if_t, inK_i64, cond_true, Option.bind_some]
      rfl
    · have w0 : IntKind.wrap .u8 (n : Int) = (n : Int) := by rw [wrap8]; omega
      have hk : n < 256 := by omega
      have hl := tl _ hk
      have e2 : ¬ ((n : Int) ≥ 256) := by omega
      refine ⟨tab n, ?_, by omega, tab_bl hk⟩
      simp (disch := omega) only [limb_Bits, math_bits_Len32, w0, if_neg e, if_neg e2, Int.toNat_natCast, strc0_size, t _ hk, Bool.cond_decide, if_t, inK_i64, cond_true, Option.bind_some]
      simp
theorem nat_Bits_eq {a : List Int} (ha : Wds a) (hl : a.length ≤ 200000000) : ∃ r : Nat, nat_Bits a = some (r : Int) ∧ (0 < r ↔ 0 < val a) := by
  have hle := lowN_le a
  simp only [nat_Bits, limb_Low_eq a (by omega), Option.bind_some]
  rcases Nat.eq_zero_or_pos (lowN a) with q | q
  · have := (lowN_val ha).1 q
    rw [q]
    exact ⟨0, rfl, by omega⟩
  · obtain ⟨x, x1, x2⟩ := ha.nat (lowN a - 1)
    obtain ⟨r, r1, r2, r3⟩ := limb_Bits_eq x1
    have hx : 0 < x := by
      have := lowN_at a q
      rw [x2] at this
      omega
    have hv : 0 < val a := by
      rcases Nat.eq_zero_or_pos (val a) with e | e
      · have := (lowN_val ha).2 e; omega
      · exact e
    have e1 : (((lowN a : Nat) : Int) - 1).toNat = lowN a - 1 := by omega
    have e2 : (((lowN a : Nat) : Int) == 0) = false := by simp; omega
    refine ⟨32 * (lowN a - 1) + r, ?_, by have := (r3.2.2 hx).1; omega⟩
    simp (disch := omega) only [e2, cond_false, e1, x2, r1, Bool.cond_decide, if_t, inK_i64, cond_true, Option.bind_some]
    congr 1
    omega
end Go.Ab.M
end

section
/-
  PLAIN LAW: NATURAL NUMBERS BY WORDS (bits exactly; division).
-/
namespace Go.Ab.M
set_option linter.unusedVariables false
set_option linter.unusedSimpArgs false

theorem or_words {h l : Nat} (hh : h < 4294967296) (hl : l < 4294967296) : orI' .u64 (shlI .u64 (h : Int) 32) (l : Int) = ((h * 4294967296 + l : Nat) : Int) := by
  have e : min (32 : Int).toNat IntKind.u64.bits = 32 := rfl
  have e1 : shlI .u64 (h : Int) 32 = ((h * 4294967296 : Nat) : Int) := by
    simp only [shlI, e]
    rw [show (2 : Int) ^ 32 = 4294967296 by decide, wrap64]; omega
  have i1 : isW ((h * 4294967296 : Nat) : Int) := isW_nat (by omega)
  have i2 : isW (l : Int) := isW_nat (by omega)
  have hor := Nat.two_pow_add_eq_or_of_lt (i := 32) (b := l) (by omega) h
  have e3 : h * 4294967296 ||| l = h * 4294967296 + l := by
    rw [show (2 : Nat) ^ 32 = 4294967296 by decide, Nat.mul_comm] at hor
    exact hor.symm
  rw [e1, orI_eq, BitVec.toNat_or, bv_toNat i1, bv_toNat i2, Int.toNat_natCast, Int.toNat_natCast, e3]
  exact wrap_u64 (isW_nat (by omega))
theorem divmod_of {a d q r : Nat} (h : a = d * q + r) (hr : r < d) : a / d = q ∧ a % d = r := by
  subst h
  have hd : 0 < d := by omega
  exact ⟨by rw [Nat.mul_add_div hd, Nat.div_eq_of_lt hr, Nat.add_zero], by rw [Nat.mul_add_mod, Nat.mod_eq_of_lt hr]⟩
theorem limb_Div_eq {h l d : Nat} (hh : h < d) (hl : l < 4294967296) (hd : d < 4294967296) : limb_Div (h : Int) (l : Int) (d : Int) = some ((((h * 4294967296 + l) / d : Nat) : Int), (((h * 4294967296 + l) % d : Nat) : Int), true) := by
  have e0 := or_words (show h < 4294967296 by omega) hl
  have hq : (h * 4294967296 + l) / d < 4294967296 := by
    refine Nat.div_lt_of_lt_mul ?_
    have : (h + 1) * 4294967296 ≤ d * 4294967296 := Nat.mul_le_mul_right _ hh
    omega
  have hr : (h * 4294967296 + l) % d < d := Nat.mod_lt _ (by omega)
  have e1 : ((h * 4294967296 + l : Nat) : Int) / (d : Int) = (((h * 4294967296 + l) / d : Nat) : Int) := (Int.natCast_ediv _ _).symm
  have e2 : ((h * 4294967296 + l : Nat) : Int) % (d : Int) = (((h * 4294967296 + l) % d : Nat) : Int) := (Int.natCast_emod _ _).symm
  have e3 : IntKind.wrap .u32 (((h * 4294967296 + l) / d : Nat) : Int) = (((h * 4294967296 + l) / d : Nat) : Int) := by
    rw [wrap32]
    clear e1 e2
    generalize (h * 4294967296 + l) / d = u at *
    omega
  have e4 : IntKind.wrap .u32 (((h * 4294967296 + l) % d : Nat) : Int) = (((h * 4294967296 + l) % d : Nat) : Int) := by
    rw [wrap32]
    clear e1 e2 e3
    generalize (h * 4294967296 + l) % d = u at *
    omega
  have e5 : ¬ ((h : Int) ≥ (d : Int)) := by omega
  have e6 : ((h * 4294967296 + l : Nat) : Int) ≤ Go.Ab.hi .u64 := by simp only [hi]; omega
  simp (disch := omega) only [limb_Div, e0, e1, e2, e3, e4, e6, inK_u64, cond_true, Bool.cond_decide, if_neg e5, if_t, if_true]
theorem limb_Div_no {h l d : Nat} (hh : d ≤ h) : limb_Div (h : Int) (l : Int) (d : Int) = some (0, 0, false) := by
  simp (disch := omega) only [limb_Div, Bool.cond_decide, if_t]

theorem drop_nth {α : Type} [Inhabited α] {l : List α} {j : Nat} (h : j < l.length) : l.drop j = nth l j :: l.drop (j + 1) := by
  rw [List.drop_eq_getElem_cons h, nth_get h]
theorem drop_set {α : Type} {l : List α} {j : Nat} {x : α} (h : j < l.length) : (l.set j x).drop j = x :: l.drop (j + 1) := by
  rw [List.drop_eq_getElem_cons (by rw [List.length_set]; exact h), List.getElem_set_self, List.drop_set_of_lt (by omega)]
theorem split_Small_eq {a : List Int} (ha : Wds a) {d : Nat} (h0 : 0 < d) (hd : d < 4294967296) (hl : a.length ≤ 900000000) : split_Small a (d : Int) = some (natW (val a / d), ((val a % d : Nat) : Int), true) := by
  have key : ∃ y, split_Small_l a (d : Int) 0 ((a.length : Int) - 1) (List.replicate a.length 0) = some y ∧ (y.2.length = a.length ∧ Wds y.2 ∧ ∃ r : Nat, r < d ∧ y.1 = r ∧ val a = d * val y.2 + r) := by
    unfold split_Small_l
    refine loop_inv (round := fun σ : Int × Int × List Int => split_Small_l_rd a (d : Int) σ.1 σ.2.1 σ.2.2) (fun k σ => k ≤ a.length ∧ σ.2.1 = ((a.length - k : Nat) : Int) - 1 ∧ σ.2.2.length = a.length ∧ Wds σ.2.2 ∧ ∃ r : Nat, r < d ∧ σ.1 = r ∧ val (a.drop (a.length - k)) = d * val (σ.2.2.drop (a.length - k)) + r) a.length (0, (a.length : Int) - 1, List.replicate a.length 0) ⟨by omega, rfl, List.length_replicate, Wds.zeros _, 0, h0, rfl, by simp [val]⟩ ?_ ?_ (by simp only [FU]; omega)
    · rintro k ⟨r1, i1, q⟩ hk ⟨q0, q1, q2, q3, r, q4, q5, q6⟩
      simp only at q1 q2 q3 q5 q6
      subst q1
      subst q5
      have hj : a.length - k = (a.length - (k + 1)) + 1 := by omega
      generalize hjj : a.length - (k + 1) = j at *
      rw [hj] at q6 ⊢
      obtain ⟨x, x1, x2⟩ := ha.nat j
      have hdv := limb_Div_eq q4 x1 hd
      have ejn : (((j + 1 : Nat) : Int) - 1).toNat = j := by omega
      have hq : (r * 4294967296 + x) / d < 4294967296 := by
        refine Nat.div_lt_of_lt_mul ?_
        have : (r + 1) * 4294967296 ≤ d * 4294967296 := Nat.mul_le_mul_right _ q4
        omega
      refine ⟨((((r * 4294967296 + x) % d : Nat) : Int), ((j + 1 : Nat) : Int) - 1 - 1, q.set j (((r * 4294967296 + x) / d : Nat) : Int)), ?_, by omega, by simp only; omega, by simp only [List.length_set]; exact q2, q3.set _ (isWd_nat hq), (r * 4294967296 + x) % d, Nat.mod_lt _ h0, rfl, ?_⟩
      · simp (disch := omega) only [split_Small_l_rd, ejn, x2, hdv, Bool.cond_decide, if_t, Option.bind_some, inK_i64, cond_true]
      · simp only
        rw [drop_nth (by omega : j < a.length), drop_set (by omega : j < q.length), x2]
        simp only [val, Int.toNat_natCast, q6]
        have := Nat.div_add_mod (r * 4294967296 + x) d
        generalize (r * 4294967296 + x) / d = u at *
        generalize (r * 4294967296 + x) % d = w at *
        generalize val (q.drop (j + 1)) = v at *
        grind
    · rintro ⟨r1, i1, q⟩ ⟨q0, q1, q2, q3, r, q4, q5, q6⟩
      simp only at q1 q2 q3 q5 q6
      subst q1
      subst q5
      rw [Nat.sub_self, List.drop_zero, List.drop_zero] at q6
      have e : ¬ ((((a.length - a.length : Nat) : Int) - 1) ≥ 0) := by omega
      exact ⟨((r : Int), q), by simp only [split_Small_l_rd, Bool.cond_decide, if_neg e], q2, q3, r, q4, rfl, q6⟩
  obtain ⟨⟨r1, q⟩, y1, y2, y3, r, y4, y5, y6⟩ := key
  simp only at y1 y2 y3 y5 y6
  subst y5
  have ht := nat_Trim_eq y3 (by omega)
  have e0 : ((d : Int) == 0) = false := by simp; omega
  obtain ⟨hdv, hmd⟩ := divmod_of y6 y4
  rw [hdv, hmd]
  by_cases hl2 : a.length ≤ 2147483648
  · simp (disch := omega) only [split_Small, e0, cond_false, Bool.cond_decide, if_t, inK_i64, cond_true, y1, Option.bind_some, ht]
  · omega

/-! ### a number's words, place by place -/
theorem natW_nth (n i : Nat) : nth (natW n) i = ((n / 4294967296 ^ i % 4294967296 : Nat) : Int) := by
  induction i generalizing n with
  | zero =>
    rcases Nat.eq_zero_or_pos n with e | e
    · subst e; rw [natW_zero]; rfl
    · rw [natW_pos e]; simp [nth, List.getD]
  | succ i ih =>
    rcases Nat.eq_zero_or_pos n with e | e
    · subst e; rw [natW_zero]; simp [nth, List.getD]
    · rw [natW_pos e]
      have : nth ((((n % 4294967296 : Nat) : Int)) :: natW (n / 4294967296)) (i + 1) = nth (natW (n / 4294967296)) i := by simp [nth, List.getD]
      rw [this, ih, Nat.div_div_eq_div_mul, Nat.pow_succ, Nat.mul_comm]
theorem natW_lt (n : Nat) : n < 4294967296 ^ (natW n).length := by
  have := val_lt (natW_wds n)
  rwa [val_natW] at this
theorem natW_ge {n : Nat} (h : 0 < n) : 4294967296 ^ ((natW n).length - 1) ≤ n := by
  have h1 := lowN_len (natW_wds n)
  rw [val_natW] at h1
  have h2 : 0 < (natW n).length := List.length_pos_iff.2 fun e => by rw [natW_nil] at e; omega
  have := val_ge_pow (natW_wds n) (by omega)
  rwa [h1, val_natW] at this
theorem natW_lenpos {n : Nat} (h : 0 < n) : 0 < (natW n).length := List.length_pos_iff.2 fun e => by rw [natW_nil] at e; omega
theorem natW_len_eq {n k : Nat} (h1 : 4294967296 ^ k ≤ n) (h2 : n < 4294967296 ^ (k + 1)) : (natW n).length = k + 1 := by
  have h3 := natW_len h2
  have h4 := natW_lt n
  rcases Nat.lt_or_ge (natW n).length (k + 1) with q | q
  · have : (4294967296 : Nat) ^ (natW n).length ≤ 4294967296 ^ k := Nat.pow_le_pow_right (by decide) (by omega)
    omega
  · omega
theorem natW_le {a : List Int} (h : Wds a) : (natW (val a)).length ≤ a.length := by rw [← lowN_len h]; exact lowN_le a
theorem natW_mono {m n : Nat} (h : m ≤ n) : (natW m).length ≤ (natW n).length := natW_len (Nat.lt_of_le_of_lt h (natW_lt n))

theorem nat_Bits_bl {a : List Int} (ha : Wds a) (hl : a.length ≤ 200000000) : ∃ r : Nat, nat_Bits a = some (r : Int) ∧ Bl (val a) r := by
  have hle := lowN_le a
  simp only [nat_Bits, limb_Low_eq a (by omega), Option.bind_some]
  rcases Nat.eq_zero_or_pos (lowN a) with q | q
  · have := (lowN_val ha).1 q
    rw [q, this]
    exact ⟨0, rfl, by decide, fun _ => rfl, fun h => by omega⟩
  · obtain ⟨x, x1, x2⟩ := ha.nat (lowN a - 1)
    obtain ⟨r, r1, r2, r3⟩ := limb_Bits_eq x1
    have hx : 0 < x := by
      have := lowN_at a q
      rw [x2] at this
      omega
    have hv : x = val a / 2 ^ (32 * (lowN a - 1)) := by
      have h1 := val_take_succ (a := a) (i := lowN a - 1) (by omega)
      rw [show lowN a - 1 + 1 = lowN a by omega, val_take_low ha (Nat.le_refl _), x2, Int.toNat_natCast] at h1
      have h2 := val_lt (ha.take (lowN a - 1))
      rw [List.length_take, Nat.min_eq_left (by omega)] at h2
      rw [Nat.pow_mul, show (2 : Nat) ^ 32 = 4294967296 by decide, h1]
      generalize (4294967296 : Nat) ^ (lowN a - 1) = P at *
      rw [Nat.add_mul_div_left _ _ (by omega), Nat.div_eq_of_lt h2, Nat.zero_add]
    have e1 : (((lowN a : Nat) : Int) - 1).toNat = lowN a - 1 := by omega
    have e2 : (((lowN a : Nat) : Int) == 0) = false := by simp; omega
    refine ⟨32 * (lowN a - 1) + r, ?_, r3.up hx hv⟩
    simp (disch := omega) only [e2, cond_false, e1, x2, r1, Bool.cond_decide, if_t, inK_i64, cond_true, Option.bind_some]
    congr 1
    omega

/-! ### division -/
theorem guess_eq {R B : Nat} (hB : 0 < B) (hn : 2147483648 * 4294967296 ^ ((natW B).length - 1) ≤ B) (hR : R < B * 4294967296) (hl : (natW B).length ≤ 900000000) :
    ∃ g : Nat, split_guess (natW R) (natW B) = some (g : Int) ∧ g < 4294967296 ∧ R / B ≤ g ∧ g ≤ R / B + 2 := by
  obtain ⟨m, hm⟩ : ∃ m, (natW B).length = m + 1 := ⟨(natW B).length - 1, by have := natW_lenpos hB; omega⟩
  rw [hm] at hn
  simp only [Nat.add_sub_cancel] at hn
  have hBlt := natW_lt B
  rw [hm] at hBlt
  have hRlen : (natW R).length ≤ m + 2 := natW_len (by
    have : B * 4294967296 < 4294967296 ^ (m + 1) * 4294967296 := Nat.mul_lt_mul_of_pos_right hBlt (by decide)
    rw [← Nat.pow_succ] at this; exact Nat.lt_trans hR this)
  have hRlt := natW_lt R
  rcases Nat.lt_or_ge (natW R).length (m + 1) with q | q
  · have hz : R / B = 0 := by
      refine Nat.div_eq_of_lt ?_
      have h1 : (4294967296 : Nat) ^ (natW R).length ≤ 4294967296 ^ m := Nat.pow_le_pow_right (by decide) (by omega)
      have h2 := natW_ge hB
      rw [hm] at h2
      simp only [Nat.add_sub_cancel] at h2
      omega
    refine ⟨0, ?_, by decide, by omega, by omega⟩
    simp (disch := omega) only [split_guess, hm, Bool.cond_decide, if_t]
    rfl
  · -- the highest words
    obtain ⟨P, hP⟩ : ∃ P, P = (4294967296 : Nat) ^ m := ⟨_, rfl⟩
    have hP0 : 0 < P := by rw [hP]; exact Nat.pow_pos (by decide)
    have hpow : (4294967296 : Nat) ^ (m + 1) = P * 4294967296 := by rw [Nat.pow_succ, hP]
    rw [← hP] at hn
    rw [hpow] at hBlt
    obtain ⟨bt, hbt⟩ : ∃ bt, bt = B / P := ⟨_, rfl⟩
    have hb1 : bt < 4294967296 := by rw [hbt]; exact Nat.div_lt_of_lt_mul hBlt
    have hb2 : 2147483648 ≤ bt := by rw [hbt]; exact (Nat.le_div_iff_mul_le hP0).2 hn
    have hb3 : bt * P ≤ B := by rw [hbt]; exact Nat.div_mul_le_self _ _
    have hb4 : B < (bt + 1) * P := by
      have := Nat.lt_mul_div_succ B hP0
      rw [← hbt] at this
      rwa [Nat.mul_comm] at this
    obtain ⟨t, ht⟩ : ∃ t, t = R / P := ⟨_, rfl⟩
    have ht3 : t * P ≤ R := by rw [ht]; exact Nat.div_mul_le_self _ _
    have ht4 : R < (t + 1) * P := by
      have := Nat.lt_mul_div_succ R hP0
      rw [← ht] at this
      rwa [Nat.mul_comm] at this
    have nb : nth (natW B) m = (bt : Int) := by rw [natW_nth, ← hP, ← hbt, Nat.mod_eq_of_lt hb1]
    have nr : nth (natW R) m = ((t % 4294967296 : Nat) : Int) := by rw [natW_nth, ← hP, ← ht]
    have nh : nth (natW R) (m + 1) = ((t / 4294967296 : Nat) : Int) := by
      rw [natW_nth, hpow, ← Nat.div_div_eq_div_mul, ← ht]
      have : t / 4294967296 < 4294967296 := by
        refine Nat.div_lt_of_lt_mul ?_
        refine Nat.lt_of_mul_lt_mul_right (a := P) (Nat.lt_of_le_of_lt ht3 (Nat.lt_trans hR ?_))
        calc B * 4294967296 < (P * 4294967296) * 4294967296 := Nat.mul_lt_mul_of_pos_right hBlt (by decide)
          _ = 4294967296 * 4294967296 * P := by grind
      rw [Nat.mod_eq_of_lt this]
    have hdm := Nat.div_add_mod t 4294967296
    -- the answer
    have upper : ∀ g : Nat, g < 4294967296 → g * bt ≤ t → g ≤ R / B + 2 := by
      intro g g1 g2
      have h1 : g * bt * P ≤ R := Nat.le_trans (Nat.mul_le_mul_right _ g2) ht3
      have h2 : g * P ≤ 2 * B := by
        have : g * P ≤ 4294967296 * P := Nat.mul_le_mul_right _ (by omega)
        omega
      have h3 : g * B ≤ g * ((bt + 1) * P) := Nat.mul_le_mul_left _ (Nat.le_of_lt hb4)
      have h4 : g * B ≤ R + 2 * B := by grind
      have h5 : R < (R / B + 1) * B := by
        have := Nat.lt_mul_div_succ R hB
        rwa [Nat.mul_comm] at this
      have h6 : g * B < (R / B + 3) * B := by grind
      have := Nat.lt_of_mul_lt_mul_right h6
      omega
    have lower : R / B * bt ≤ t := by
      have h1 : R / B * B ≤ R := Nat.div_mul_le_self _ _
      have h2 : R / B * bt * P ≤ R / B * B := by rw [Nat.mul_assoc]; exact Nat.mul_le_mul_left _ hb3
      have h3 : R / B * bt * P < (t + 1) * P := by omega
      have := Nat.lt_of_mul_lt_mul_right h3
      omega
    have hqW : R / B < 4294967296 := Nat.div_lt_of_lt_mul hR
    have e1 : (((m + 1 : Nat) : Int) - 1).toNat = m := by omega
    have fin : ∀ hiw : Nat, hiw * 4294967296 + t % 4294967296 = t → ∃ g : Nat, ((limb_Div (hiw : Int) ((t % 4294967296 : Nat) : Int) (bt : Int)).bind fun x0 => bif !x0.2.2 then some (4294967295 : Int) else some x0.1) = some (g : Int) ∧ g < 4294967296 ∧ R / B ≤ g ∧ g ≤ R / B + 2 := by
      intro hiw hh
      rcases Nat.lt_or_ge hiw bt with q1 | q1
      · rw [limb_Div_eq q1 (Nat.mod_lt _ (by decide)) hb1, hh]
        have hg : t / bt < 4294967296 := by
          refine Nat.div_lt_of_lt_mul ?_
          have : (hiw + 1) * 4294967296 ≤ bt * 4294967296 := Nat.mul_le_mul_right _ q1
          omega
        refine ⟨t / bt, rfl, hg, (Nat.le_div_iff_mul_le (by omega)).2 lower, upper _ hg (Nat.div_mul_le_self _ _)⟩
      · rw [limb_Div_no q1]
        refine ⟨4294967295, by simp only [Option.bind_some, Bool.not_false, cond_true]; exact congrArg some (show (4294967295 : Int) = ((4294967295 : Nat) : Int) by omega), by decide, by omega, upper _ (by decide) ?_⟩
        have : bt * 4294967296 ≤ hiw * 4294967296 := Nat.mul_le_mul_right _ q1
        omega
    rcases Nat.lt_or_ge (m + 1) (natW R).length with q2 | q2
    · have hl2 : (natW R).length = m + 2 := by omega
      obtain ⟨g, g1, g2⟩ := fin (t / 4294967296) (by omega)
      refine ⟨g, ?_, g2⟩
      have e3 : ¬ ((((m + 2 : Nat) : Nat) : Int) < ((m + 1 : Nat) : Int)) := by omega
      rw [← g1]
      simp (disch := omega) only [split_guess, hm, hl2, if_neg e3, Bool.cond_decide, if_t, inK_i64, cond_true, e1, nb, nr, nh]
    · have hl2 : (natW R).length = m + 1 := by omega
      have ht0 : t < 4294967296 := by
        rw [hl2, hpow] at hRlt
        rw [ht]
        exact Nat.div_lt_of_lt_mul hRlt
      obtain ⟨g, g1, g2⟩ := fin 0 (by rw [Nat.zero_mul, Nat.zero_add, Nat.mod_eq_of_lt ht0])
      refine ⟨g, ?_, g2⟩
      have e3 : ¬ (((m + 1 : Nat) : Int) < ((m + 1 : Nat) : Int)) := by omega
      have e4 : ¬ (((m + 1 : Nat) : Int) > ((m + 1 : Nat) : Int)) := by omega
      have e0 : ((0 : Nat) : Int) = 0 := rfl
      rw [e0] at g1
      rw [← g1]
      simp (disch := omega) only [split_guess, hm, hl2, if_neg e3, if_neg e4, Bool.cond_decide, if_t, inK_i64, cond_true, e1, nb, nr]
theorem digit_step {R B : Nat} (hl : (natW B).length ≤ 700000000) (hRlen : (natW R).length ≤ (natW B).length + 1) {q : Nat} (hq : q < 4294967296) :
    split_digit_l_rd (natW R) (natW B) (q : Int) = if R < q * B then some (.inl (IntKind.wrap .u32 ((q : Int) - 1))) else some (.inr (natW (R - q * B), (q : Int))) := by
  have h1 := times_One_eq (natW_wds B) hq (show 0 < 4294967296 by decide) (by omega)
  have e0 : ((0 : Nat) : Int) = 0 := rfl
  rw [e0, val_natW, Nat.add_zero] at h1
  have hqB : (natW (q * B)).length ≤ (natW B).length + 1 := natW_len (by
    have : q * B < 4294967296 * 4294967296 ^ (natW B).length := Nat.mul_lt_mul'' hq (natW_lt B)
    rw [Nat.pow_succ, Nat.mul_comm (4294967296 ^ (natW B).length)]; exact this)
  have h2 := nat_Sub_eq (natW_wds R) (natW_wds (q * B)) (by omega) (by omega)
  rw [val_natW, val_natW] at h2
  simp only [split_digit_l_rd, h1, h2, Option.bind_some]
  by_cases hlt : R < q * B
  · simp only [if_pos hlt, cond_false]
  · simp only [if_neg hlt, cond_true]
theorem digit_run {R B : Nat} (hB : 0 < B) (hl : (natW B).length ≤ 700000000) (hRlen : (natW R).length ≤ (natW B).length + 1) {g : Nat} (g2 : g < 4294967296) (g3 : R / B ≤ g) (g4 : g ≤ R / B + 2) :
    split_digit_l (natW R) (natW B) (g : Int) = some (natW (R % B), ((R / B : Nat) : Int)) := by
  unfold split_digit_l
  refine loop_run (round := fun σ : Int => split_digit_l_rd (natW R) (natW B) σ) (fun i => ((g - i : Nat) : Int)) (g - R / B) (fun i hi => ?_) ?_ (by simp only [FU]; omega)
  · rw [digit_step hl hRlen (by omega), if_pos]
    · congr 2
      rw [wrap32]
      generalize R / B = u at *
      omega
    · have h5 := Nat.lt_mul_div_succ R hB
      have h6 : (R / B + 1) * B ≤ (g - i) * B := Nat.mul_le_mul_right _ (by generalize R / B = u at *; omega)
      rw [Nat.mul_comm] at h5
      exact Nat.lt_of_lt_of_le h5 h6
  · have e : g - (g - R / B) = R / B := by generalize R / B = u at *; omega
    have h1 : R / B * B ≤ R := Nat.div_mul_le_self _ _
    simp only [e]
    rw [digit_step hl hRlen (by omega), if_neg (by omega)]
    have := Nat.div_add_mod R B
    rw [Nat.mul_comm] at this
    rw [show R - R / B * B = R % B by omega]
theorem powW_succ (k : Nat) : (4294967296 : Nat) ^ (k + 1) = 4294967296 ^ k * 4294967296 := by rw [Nat.pow_add, Nat.pow_one]
theorem natW_lenW {R B : Nat} (hR : R < B * 4294967296) : (natW R).length ≤ (natW B).length + 1 := by
  refine natW_len ?_
  rw [powW_succ]
  exact Nat.lt_trans hR (Nat.mul_lt_mul_of_pos_right (natW_lt B) (Nat.zero_lt_succ _))
theorem digit_of {R B g : Nat} (hB : 0 < B) (hl : (natW B).length ≤ 700000000) (hRlen : (natW R).length ≤ (natW B).length + 1) (g1 : split_guess (natW R) (natW B) = some (g : Int)) (g2 : g < 4294967296) (g3 : R / B ≤ g) (g4 : g ≤ R / B + 2) :
    split_digit (natW R) (natW B) = some (((R / B : Nat) : Int), natW (R % B)) := by
  have h := digit_run hB hl hRlen g2 g3 g4
  unfold split_digit
  rw [g1, Option.bind_some, h, Option.bind_some]
theorem digit_eq {R B : Nat} (hB : 0 < B) (hn : 2147483648 * 4294967296 ^ ((natW B).length - 1) ≤ B) (hR : R < B * 4294967296) (hl : (natW B).length ≤ 700000000) :
    split_digit (natW R) (natW B) = some (((R / B : Nat) : Int), natW (R % B)) := by
  obtain ⟨g, g1, g2, g3, g4⟩ := guess_eq hB hn hR (by omega)
  exact digit_of hB hl (natW_lenW hR) g1 g2 g3 g4
end Go.Ab.M
end

section
/-
  PLAIN LAW: NATURAL NUMBERS BY WORDS (long division; powers; the greatest common divisor; lowest terms).
-/
namespace Go.Ab.M
set_option linter.unusedVariables false
set_option linter.unusedSimpArgs false

/-- the loop of long division, by a number whose highest word has all bits -/
theorem divl_eq (x1 : Int) {A : List Int} (hA : Wds A) {B : Nat} (hB : 0 < B) (hn : 2147483648 * 4294967296 ^ ((natW B).length - 1) ≤ B) (hl : A.length ≤ 600000000) (hl2 : (natW B).length ≤ 600000000) :
    ∃ q, split_Div_l x1 A (natW B) [] ((A.length : Int) - 1) (List.replicate A.length 0) = some (natW (val A % B), q) ∧ Wds q ∧ q.length = A.length ∧ val q = val A / B := by
  have key : ∃ y, split_Div_l x1 A (natW B) [] ((A.length : Int) - 1) (List.replicate A.length 0) = some y ∧ (y.2.length = A.length ∧ Wds y.2 ∧ ∃ r : Nat, r < B ∧ y.1 = natW r ∧ val A = B * val y.2 + r) := by
    unfold split_Div_l
    refine loop_inv (round := fun σ : List Int × Int × List Int => split_Div_l_rd x1 A (natW B) σ.1 σ.2.1 σ.2.2) (fun k σ => k ≤ A.length ∧ σ.2.1 = ((A.length - k : Nat) : Int) - 1 ∧ σ.2.2.length = A.length ∧ Wds σ.2.2 ∧ ∃ r : Nat, r < B ∧ σ.1 = natW r ∧ val (A.drop (A.length - k)) = B * val (σ.2.2.drop (A.length - k)) + r) A.length ([], (A.length : Int) - 1, List.replicate A.length 0) ⟨by omega, rfl, List.length_replicate, Wds.zeros _, 0, hB, natW_zero.symm, by simp [val]⟩ ?_ ?_ (by simp only [FU]; omega)
    · rintro k ⟨r1, i1, q⟩ hk ⟨q0, q1, q2, q3, r, q4, q5, q6⟩
      simp only at q1 q2 q3 q5 q6
      subst q1
      subst q5
      have hj : A.length - k = (A.length - (k + 1)) + 1 := by omega
      generalize hjj : A.length - (k + 1) = j at *
      rw [hj] at q6 ⊢
      obtain ⟨x, x1', x2⟩ := hA.nat j
      have ejn : (((j + 1 : Nat) : Int) - 1).toNat = j := by omega
      have hrl : (natW r).length ≤ (natW B).length := natW_mono (Nat.le_of_lt q4)
      have ht := nat_Trim_eq (a := (x : Int) :: natW r) (Wds.cons (isWd_nat x1') (natW_wds r)) (by rw [List.length_cons]; omega)
      have hv : val ((x : Int) :: natW r) = x + 4294967296 * r := by simp only [val, val_natW, Int.toNat_natCast]
      rw [hv] at ht
      have hR : x + 4294967296 * r < B * 4294967296 := by
        have : (r + 1) * 4294967296 ≤ B * 4294967296 := Nat.mul_le_mul_right _ q4
        omega
      have hd := digit_eq hB hn hR (by omega)
      have hqW : (x + 4294967296 * r) / B < 4294967296 := Nat.div_lt_of_lt_mul hR
      have e1 : 1 + (natW r).length ≤ 2147483648 := by omega
      refine ⟨(natW ((x + 4294967296 * r) % B), ((j + 1 : Nat) : Int) - 1 - 1, q.set j (((x + 4294967296 * r) / B : Nat) : Int)), ?_, by omega, by simp only; omega, by simp only [List.length_set]; exact q2, q3.set _ (isWd_nat hqW), (x + 4294967296 * r) % B, Nat.mod_lt _ hB, rfl, ?_⟩
      · simp (disch := omega) only [split_Div_l_rd, ejn, x2, List.singleton_append, ht, hd, Bool.cond_decide, if_t, if_pos e1, Option.bind_some, inK_i64, cond_true]
      · simp only
        rw [drop_nth (by omega : j < A.length), drop_set (by omega : j < q.length), x2]
        simp only [val, Int.toNat_natCast, q6]
        have := Nat.div_add_mod (x + 4294967296 * r) B
        generalize (x + 4294967296 * r) / B = u at *
        generalize (x + 4294967296 * r) % B = w at *
        generalize val (q.drop (j + 1)) = v at *
        grind
    · rintro ⟨r1, i1, q⟩ ⟨q0, q1, q2, q3, r, q4, q5, q6⟩
      simp only at q1 q2 q3 q5 q6
      subst q1
      subst q5
      rw [Nat.sub_self, List.drop_zero, List.drop_zero] at q6
      have e : ¬ ((((A.length - A.length : Nat) : Int) - 1) ≥ 0) := by omega
      exact ⟨(natW r, q), by simp only [split_Div_l_rd, Bool.cond_decide, if_neg e], q2, q3, r, q4, rfl, q6⟩
  obtain ⟨⟨r1, q⟩, y1, y2, y3, r, y4, y5, y6⟩ := key
  simp only at y1 y2 y3 y5 y6
  subst y5
  obtain ⟨d1, d2⟩ := divmod_of y6 y4
  exact ⟨q, by rw [d2]; exact y1, y3, y2, d1.symm⟩

/-! ### powers -/
theorem lowN_pos_val {a : List Int} (ha : Wds a) : 0 < lowN a ↔ 0 < val a := by
  have := lowN_val ha
  omega
theorem Pow_l2_eq {a : List Int} (ha : Wds a) {n : Nat} (hp : 0 < val a) (h : n * lowN a ≤ 100000) (hn : n ≤ 100000) (hl : a.length ≤ 300000000) :
    times_Pow_l_2 a (n : Int) ((lowN a : Nat) : Int) (natW 1) 0 = some (natW (val a ^ n)) := by
  have hlow := lowN_le a
  have hlp := (lowN_pos_val ha).2 hp
  have hv : val (a.take (lowN a)) = val a := val_take_low ha (Nat.le_refl _)
  have hlt : val a < 4294967296 ^ lowN a := by
    have := val_lt (ha.take (lowN a))
    rwa [hv, List.length_take, Nat.min_eq_left hlow] at this
  unfold times_Pow_l_2
  refine loop_run (round := fun σ : List Int × Nat => times_Pow_l_2_rd a (n : Int) ((lowN a : Nat) : Int) σ.1 σ.2) (fun i => (natW (val a ^ i), i)) n (fun i hi => ?_) ?_ (by simp only [FU]; omega)
  · have hil : (natW (val a ^ i)).length ≤ i * lowN a + 1 := natW_len (by
      have : val a ^ i ≤ (4294967296 ^ lowN a) ^ i := Nat.pow_le_pow_left (Nat.le_of_lt hlt) i
      rw [← Nat.pow_mul, Nat.mul_comm] at this
      rw [Nat.pow_succ]
      have h2 : 0 < (4294967296 : Nat) ^ (i * lowN a) := Nat.pow_pos (by decide)
      omega)
    have hi2 : i * lowN a ≤ n * lowN a := Nat.mul_le_mul_right _ (by omega)
    have hm := times_Mul_eq (natW_wds (val a ^ i)) (ha.take (lowN a)) (by rw [List.length_take]; omega)
    rw [val_natW, hv, ← Nat.pow_succ] at hm
    simp (disch := omega) only [times_Pow_l_2_rd, Int.toNat_natCast, hm, Bool.cond_decide, if_t, Option.bind_some, inK_i64, cond_true]
  · simp only [times_Pow_l_2_rd, Int.lt_irrefl, decide_false, cond_false]
theorem Pow_two_eq {k : Nat} (hk : k < 32) : times_Pow [2] (k : Int) = some (natW (2 ^ k), true) := by
  have hw : Wds [2] := Wds.cons ⟨by decide, by decide⟩ Wds.nil
  have hl : lowN [2] = 1 := by decide
  have hv : val [2] = 2 := by decide
  have hlow := limb_Low_eq [2] (by simp)
  rw [hl] at hlow
  obtain ⟨r, r1, r2⟩ := nat_Bits_bl hw (by simp)
  rw [hv] at r2
  obtain ⟨r3, r4, r5⟩ := r2
  have hr : r > 1 := by
    rcases Nat.lt_or_ge 1 r with q | q
    · exact q
    · have : (2 : Nat) ^ r ≤ 2 ^ 1 := Nat.pow_le_pow_right (by decide) q
      omega
  have hof := nat_Of_eq (n := 1) (by decide)
  have e0 : ((1 : Nat) : Int) = 1 := rfl
  rw [e0] at hof
  have hpw := Pow_l2_eq hw (n := k) (by rw [hv]; decide) (by rw [hl]; omega) (by omega) (by simp)
  rw [hl, hv] at hpw
  rw [e0] at hpw
  have hd : (decide ((r : Int) > 1)) = true := decide_eq_true (by omega)
  have e1 : ¬ ((k : Int) < 0) := by omega
  have e2 : (4096 : Int) / 1 = 4096 := by decide
  have e3 : ¬ ((k : Int) > 4096) := by omega
  have e4 : (4096 : Int) ≤ Go.Ab.hi .i64 := by simp only [hi]; decide
  simp (disch := omega) only [times_Pow, hlow, e0, r1, Option.bind_some, Bool.cond_decide, if_neg e1, hd, cond_true, if_t, e2, if_neg e3, if_pos e4, Bool.not_true, cond_false, hof, hpw]

theorem split_Div_eq {a b : List Int} (ha : Wds a) (hb : Wds b) (h0 : 0 < val b) (hl : a.length ≤ 500000000) (hl2 : b.length ≤ 500000000) :
    split_Div a b = some (natW (val a / val b), natW (val a % val b), true) := by
  have ht := nat_Trim_eq hb (by omega)
  have hbl := natW_le hb
  have hnp := natW_lenpos h0
  obtain ⟨m, hm⟩ : ∃ m, (natW (val b)).length = m + 1 := ⟨(natW (val b)).length - 1, by omega⟩
  -- the highest word
  obtain ⟨x, hx⟩ : ∃ x, x = val b / 4294967296 ^ m := ⟨_, rfl⟩
  have hP0 : 0 < (4294967296 : Nat) ^ m := Nat.pow_pos (by decide)
  have hlt := natW_lt (val b)
  have hge := natW_ge h0
  rw [hm, Nat.pow_succ] at hlt
  rw [hm, Nat.add_sub_cancel] at hge
  have hx1 : x < 4294967296 := by rw [hx]; exact Nat.div_lt_of_lt_mul hlt
  have hx2 : 0 < x := by rw [hx]; exact Nat.div_pos hge hP0
  have nx : nth (natW (val b)) m = (x : Int) := by rw [natW_nth, ← hx, Nat.mod_eq_of_lt hx1]
  obtain ⟨s, s1, s2, s3, s4, s5⟩ := limb_Bits_eq hx1
  obtain ⟨s6, s7⟩ := s5 hx2
  obtain ⟨k, hk⟩ : ∃ k, k = 32 - s := ⟨_, rfl⟩
  have hk1 : k < 32 := by omega
  have hsh1 := times_Shift_eq ha (n := k) (by omega) (by omega)
  have hsh2 := times_Shift_eq (natW_wds (val b)) (n := k) (by omega) (by omega)
  rw [val_natW] at hsh2
  have ek : (32 : Int) - (s : Int) = (k : Int) := by omega
  -- shifted
  obtain ⟨B, hB⟩ : ∃ B, B = val b * 2 ^ k := ⟨_, rfl⟩
  have hp2 : 0 < 2 ^ k := Nat.two_pow_pos k
  have hB0 : 0 < B := by rw [hB]; exact Nat.mul_pos h0 hp2
  have hxP : x * 4294967296 ^ m ≤ val b := by rw [hx]; exact Nat.div_mul_le_self _ _
  have hxP2 : val b < (x + 1) * 4294967296 ^ m := by
    have := Nat.lt_mul_div_succ (val b) hP0
    rw [← hx] at this
    rwa [Nat.mul_comm] at this
  have hpk : (2 : Nat) ^ (s - 1) * 2 ^ k = 2147483648 := by
    rw [← Nat.pow_add, show s - 1 + k = 31 by omega]
  have hpk2 : (2 : Nat) ^ s * 2 ^ k = 4294967296 := by
    rw [← Nat.pow_add, show s + k = 32 by omega]
  have hBlow : 2147483648 * 4294967296 ^ m ≤ B := by
    rw [hB, ← hpk]
    have h1 : 2 ^ (s - 1) * 2 ^ k * 4294967296 ^ m ≤ x * 2 ^ k * 4294967296 ^ m := Nat.mul_le_mul_right _ (Nat.mul_le_mul_right _ s7)
    have h2 : x * 4294967296 ^ m * 2 ^ k ≤ val b * 2 ^ k := Nat.mul_le_mul_right _ hxP
    have h3 : x * 2 ^ k * 4294967296 ^ m = x * 4294967296 ^ m * 2 ^ k := by rw [Nat.mul_assoc, Nat.mul_comm (2 ^ k), ← Nat.mul_assoc]
    omega
  have hBhi : B < 4294967296 ^ (m + 1) := by
    rw [hB, powW_succ]
    have h1 : val b < 2 ^ s * 4294967296 ^ m := Nat.lt_of_lt_of_le hxP2 (Nat.mul_le_mul_right _ s3)
    have h2 := Nat.mul_lt_mul_of_pos_right h1 hp2
    have h3 : 2 ^ s * 4294967296 ^ m * 2 ^ k = 4294967296 ^ m * (2 ^ s * 2 ^ k) := by rw [Nat.mul_comm (2 ^ s), Nat.mul_assoc]
    rw [h3, hpk2] at h2
    exact h2
  have hBlen : (natW B).length = m + 1 := natW_len_eq (by
    have : 4294967296 ^ m ≤ 2147483648 * 4294967296 ^ m := Nat.le_mul_of_pos_left _ (by decide)
    omega) hBhi
  have hAlen : (natW (val a * 2 ^ k)).length ≤ a.length + 1 := natW_len (by
    rw [Nat.pow_succ]
    have h1 := val_lt ha
    have h2 : 2 ^ k ≤ 4294967296 := by
      have : (2 : Nat) ^ k ≤ 2 ^ 32 := Nat.pow_le_pow_right (by decide) (by omega)
      omega
    exact Nat.lt_of_lt_of_le (Nat.mul_lt_mul_of_pos_right h1 hp2) (Nat.mul_le_mul_left _ h2))
  obtain ⟨q, q1, q2, q3, q4⟩ := divl_eq (s : Int) (natW_wds (val a * 2 ^ k)) hB0 (by rw [hBlen]; exact hBlow) (by omega) (by omega)
  rw [val_natW] at q1 q4
  -- back
  have hmod : val a * 2 ^ k % B = (val a % val b) * 2 ^ k := by rw [hB]; exact Nat.mul_mod_mul_right _ _ _
  have hdiv : val a * 2 ^ k / B = val a / val b := by rw [hB]; exact Nat.mul_div_mul_right _ _ hp2
  rw [hmod] at q1
  rw [hdiv] at q4
  have hpow := Pow_two_eq hk1
  have hk32 : (2 : Nat) ^ k < 4294967296 := by
    have : (2 : Nat) ^ k < 2 ^ 32 := Nat.pow_lt_pow_right (by decide) hk1
    omega
  have h2len : 0 < (natW (2 ^ k)).length := natW_lenpos hp2
  have n0 : nth (natW (2 ^ k)) 0 = ((2 ^ k : Nat) : Int) := by rw [natW_nth, Nat.pow_zero, Nat.div_one, Nat.mod_eq_of_lt hk32]
  have hrl : (natW (val a % val b * 2 ^ k)).length ≤ m + 1 := by
    rw [← hBlen]
    refine natW_mono ?_
    rw [hB]
    exact Nat.mul_le_mul_right _ (Nat.le_of_lt (Nat.mod_lt _ h0))
  have hsm := split_Small_eq (natW_wds (val a % val b * 2 ^ k)) hp2 hk32 (by omega)
  rw [val_natW, Nat.mul_div_cancel _ hp2] at hsm
  have htq := nat_Trim_eq q2 (by omega)
  rw [q4] at htq
  have e1 : ((((m + 1 : Nat) : Int)) == 0) = false := by simp; omega
  have e2 : (((m + 1 : Nat) : Int) - 1).toNat = m := by omega
  rw [hB] at q1
  simp (disch := omega) only [split_Div, ht, hm, e1, cond_false, e2, nx, s1, ek, hsh1, hsh2, q1, hpow, h2len, n0, hsm, htq, Bool.cond_decide, if_t, if_true, Option.bind_some, inK_i64, cond_true]

/-! ### the greatest common divisor -/
theorem gcd_loop {k : Nat} : ∀ {a b : List Int} {n : Nat}, Wds a → Wds b → a.length ≤ 10000000 → b.length ≤ 10000000 → val b < 2 ^ k → 2 * k + 1 ≤ n →
    ∃ l, loopN (fun (σ : List Int × List Int × List Int) => common_Gcd_l_rd σ.1 σ.2.1 σ.2.2) n (a, b, a) = some l ∧ Wds l ∧ l.length ≤ 10000000 ∧ val l = Nat.gcd (val a) (val b) := by
  have stop : ∀ {a b : List Int} {n : Nat}, Wds b → b.length ≤ 10000000 → val b = 0 → 1 ≤ n → loopN (fun (σ : List Int × List Int × List Int) => common_Gcd_l_rd σ.1 σ.2.1 σ.2.2) n (a, b, a) = some a := by
    intro a b n hb hl h0 hn
    obtain ⟨n, rfl⟩ : ∃ m, n = m + 1 := ⟨n - 1, by omega⟩
    obtain ⟨r, r1, r2⟩ := nat_Bits_eq hb (by omega)
    have : ¬ ((r : Int) > 0) := by omega
    simp only [loopN, common_Gcd_l_rd, r1, Option.bind_some, Bool.cond_decide, if_neg this, caseS_inr]
  have step : ∀ {a b : List Int} {n : Nat}, Wds a → Wds b → a.length ≤ 10000000 → b.length ≤ 10000000 → 0 < val b →
      loopN (fun (σ : List Int × List Int × List Int) => common_Gcd_l_rd σ.1 σ.2.1 σ.2.2) (n + 1) (a, b, a) = loopN (fun (σ : List Int × List Int × List Int) => common_Gcd_l_rd σ.1 σ.2.1 σ.2.2) n (b, natW (val a % val b), b) := by
    intro a b n ha hb hl hl2 h0
    obtain ⟨r, r1, r2⟩ := nat_Bits_eq hb (by omega)
    have : (r : Int) > 0 := by omega
    simp only [loopN, common_Gcd_l_rd, r1, split_Div_eq ha hb h0 (by omega) (by omega), Option.bind_some, Bool.cond_decide, if_pos this, caseS_inl]
  induction k with
  | zero =>
    intro a b n ha hb hl hl2 h hn
    have h0 : val b = 0 := by simp at h; exact h
    exact ⟨a, stop hb hl2 h0 (by omega), ha, hl, by rw [h0, Nat.gcd_zero_right]⟩
  | succ k ih =>
    intro a b n ha hb hl hl2 h hn
    rcases Nat.eq_zero_or_pos (val b) with h0 | h0
    · exact ⟨a, stop hb hl2 h0 (by omega), ha, hl, by rw [h0, Nat.gcd_zero_right]⟩
    · obtain ⟨n, rfl⟩ : ∃ m, n = m + 2 := ⟨n - 2, by omega⟩
      have hm := Nat.mod_lt (val a) h0
      have hml : (natW (val a % val b)).length ≤ 10000000 := Nat.le_trans (natW_mono (Nat.le_of_lt hm)) (Nat.le_trans (natW_le hb) hl2)
      have hg : Nat.gcd (val a) (val b) = Nat.gcd (val b) (val a % val b) := by rw [Nat.gcd_comm, Nat.gcd_rec, Nat.gcd_comm]
      rw [step ha hb hl hl2 h0]
      rcases Nat.eq_zero_or_pos (val a % val b) with h1 | h1
      · refine ⟨b, ?_, hb, hl2, ?_⟩
        · exact stop (natW_wds _) hml (by rw [val_natW]; exact h1) (by omega)
        · rw [hg, h1, Nat.gcd_zero_right]
      · rw [step hb (natW_wds _) hl2 hml (by rw [val_natW]; exact h1), val_natW]
        have hm2 := Nat.mod_lt (val b) h1
        have half : val b % (val a % val b) < 2 ^ k := by
          rw [Nat.pow_succ] at h
          have h3 := Nat.div_add_mod (val b) (val a % val b)
          have h4 : 1 ≤ val b / (val a % val b) := Nat.div_pos (Nat.le_of_lt hm) h1
          have h5 : (val a % val b) * 1 ≤ (val a % val b) * (val b / (val a % val b)) := Nat.mul_le_mul_left _ h4
          omega
        have hml2 : (natW (val b % (val a % val b))).length ≤ 10000000 := Nat.le_trans (natW_mono (Nat.le_of_lt hm2)) hml
        obtain ⟨l, l1, l2, l3, l4⟩ := ih (a := natW (val a % val b)) (b := natW (val b % (val a % val b))) (n := n) (natW_wds _) (natW_wds _) hml hml2 (by rw [val_natW]; exact half) (by omega)
        refine ⟨l, l1, l2, l3, ?_⟩
        rw [l4, val_natW, val_natW, hg, Nat.gcd_comm (val b), Nat.gcd_rec (val a % val b) (val b), Nat.gcd_comm]
theorem common_Gcd_eq {a b : List Int} (ha : Wds a) (hb : Wds b) (hl : a.length ≤ 10000000) (hl2 : b.length ≤ 10000000) : common_Gcd a b = some (natW (Nat.gcd (val a) (val b))) := by
  have hv := val_lt hb
  rw [show (4294967296 : Nat) = 2 ^ 32 by decide, ← Nat.pow_mul] at hv
  obtain ⟨l, l1, l2, l3, l4⟩ := gcd_loop (n := FU) ha hb hl hl2 hv (by simp only [FU]; omega)
  have l1 : common_Gcd_l a b a = some l := l1
  have ht := nat_Trim_eq l2 (by omega)
  rw [l4] at ht
  simp only [common_Gcd, l1, ht, Option.bind_some]
/-- is a list of words right: without 0s at the end? -/
def isN (a : List Int) : Bool := lowN a == a.length
theorem isN_iff {a : List Int} (ha : Wds a) : isN a = true ↔ a = natW (val a) := by
  unfold isN
  rw [beq_iff_eq]
  constructor
  · intro h
    have := take_lowN ha
    rwa [h, List.take_length] at this
  · intro h
    have := lowN_len ha
    rw [this, ← h]
theorem nat_Right_eq {a : List Int} (hl : a.length ≤ 900000000) : nat_Right a = some (isN a) := by
  simp only [nat_Right, limb_Low_eq a hl, Option.bind_some, isN]
  congr 1
  rw [Bool.eq_iff_iff, beq_iff_eq, beq_iff_eq]
  omega
theorem common_Apart_eq {a b : List Int} (ha : Wds a) (hb : Wds b) (hl : a.length ≤ 10000000) (hl2 : b.length ≤ 10000000) : common_Apart a b = some (decide (Nat.gcd (val a) (val b) = 1)) := by
  have hof := nat_Of_eq (n := 1) (by decide)
  have e0 : ((1 : Nat) : Int) = 1 := rfl
  rw [e0] at hof
  have hgl : (natW (Nat.gcd (val a) (val b))).length ≤ 20000000 := by
    rcases Nat.eq_zero_or_pos (val b) with h | h
    · rw [h, Nat.gcd_zero_right]; have := natW_le ha; omega
    · have := natW_mono (Nat.gcd_le_right (m := val a) (n := val b) h); have := natW_le hb; omega
  have h1 : (natW 1).length ≤ 1 := natW_len (by decide)
  have hc := nat_Cmp_eq (natW_wds (Nat.gcd (val a) (val b))) (natW_wds 1) (by omega) (by omega)
  rw [val_natW, val_natW] at hc
  simp only [common_Apart, common_Gcd_eq ha hb hl hl2, hof, hc, Option.bind_some]
  congr 1
  rw [Bool.eq_iff_iff, beq_iff_eq, decide_eq_true_eq]
  unfold cmpN
  constructor
  · intro h
    split at h
    · omega
    · split at h <;> omega
  · intro h
    rw [h]; rfl
/-- the parts of a rational number are words, not too many -/
def okR (x : Rat) : Prop := Wds x.Num ∧ Wds x.Den ∧ x.Num.length ≤ 10000000 ∧ x.Den.length ≤ 10000000
def isR (x : Rat) : Bool := isN x.Num && isN x.Den && decide (Nat.gcd (val x.Num) (val x.Den) = 1) && decide (0 < x.Den.length) && !(x.Neg && decide (x.Num.length = 0))
theorem ratio_Right_eq {x : Rat} (h : okR x) : ratio_Right x = some (isR x) := by
  obtain ⟨h1, h2, h3, h4⟩ := h
  simp only [ratio_Right, nat_Right_eq (show x.Num.length ≤ 900000000 by omega), nat_Right_eq (show x.Den.length ≤ 900000000 by omega), common_Apart_eq h1 h2 h3 h4, Option.bind_some, isR]
  rcases Bool.eq_false_or_eq_true (isN x.Num) with e | e
  · rcases Bool.eq_false_or_eq_true (isN x.Den) with e2 | e2
    · by_cases e3 : Nat.gcd (val x.Num) (val x.Den) = 1
      · by_cases e4 : 0 < x.Den.length
        · have e5 : ((x.Den.length : Nat) : Int) > 0 := by omega
          rcases Bool.eq_false_or_eq_true x.Neg with e6 | e6
          · simp [e, e2, e3, e4, e5, e6]
            rw [Bool.eq_iff_iff]
            simp
          · simp [e, e2, e3, e4, e5, e6]
        · have e5 : ¬ ((x.Den.length : Nat) : Int) > 0 := by omega
          simp [e, e2, e3, e4, e5]
      · simp [e, e2, e3]
    · simp [e, e2]
  · simp [e]
end Go.Ab.M
end
