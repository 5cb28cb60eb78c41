/-
  TEXTS PUT TOGETHER: Pl0, PlBit.
-/
import Derived.Test.YtpefcgiiigdcdaaGreatLC
section
/-
  PLAIN LEMMAS ABOUT LOOPS AND LISTS (no program in sight).
-/
namespace Go.Ab
set_option linter.unusedVariables false

theorem inK_i64 {n : Int} (h1 : -9223372036854775808 ≤ n) (h2 : n ≤ 9223372036854775807) : inK .i64 n = true := by simp [inK, lo, hi, h1, h2]
theorem if_t {α : Type} {c : Prop} [Decidable c] {a b : α} (h : c) : (if c then a else b) = a := if_pos h
theorem if_f {α : Type} {c : Prop} [Decidable c] {a b : α} (h : ¬ c) : (if c then a else b) = b := if_neg h
/-- a loop that goes through g 0, g 1, .. up to g m, and ends there -/
theorem loop_run {S R : Type} {round : S → Option (S ⊕ R)} (g : Nat → S) (m : Nat) {r : R} (hs : ∀ i, i < m → round (g i) = some (.inl (g (i + 1)))) (he : round (g m) = some (.inr r)) (hm : m < FU) : loopN round FU (g 0) = some r := by
  have key : ∀ d i n, i + d = m → d < n → loopN round n (g i) = some r := by
    intro d
    induction d with
    | zero =>
      intro i n hi hn
      obtain rfl : i = m := by omega
      cases n with
      | zero => omega
      | succ n => simp [loopN, he]
    | succ d ih =>
      intro i n hi hn
      cases n with
      | zero => omega
      | succ n =>
        simp only [loopN, hs i (by omega), Option.bind_some, caseS_inl]
        exact ih (i + 1) n (by omega) (by omega)
  exact key m 0 FU (by omega) hm
theorem all_find {p : Nat → Bool} (n : Nat) (h : ¬ (List.range n).all p = true) : ∃ j, j < n ∧ p j = false ∧ ∀ i, i < j → p i = true := by
  induction n with
  | zero => simp at h
  | succ n ih =>
    by_cases e : (List.range n).all p = true
    · refine ⟨n, by omega, ?_, fun i hi => List.all_eq_true.1 e i (by simpa using hi)⟩
      rw [List.range_succ, List.all_append, e] at h
      simpa using h
    · obtain ⟨j, h1, h2, h3⟩ := ih e
      exact ⟨j, by omega, h2, h3⟩
/-- a loop that looks for the first place where p does not hold -/
theorem loop_all {R : Type} {round : Nat → Option (Nat ⊕ R)} (p : Nat → Bool) (n : Nat) (good bad : R) (h1 : ∀ i, i < n → p i = true → round i = some (.inl (i + 1))) (h2 : ∀ i, i < n → p i = false → round i = some (.inr bad)) (h3 : round n = some (.inr good)) (hn : n < FU) :
    loopN round FU 0 = some (if (List.range n).all p = true then good else bad) := by
  by_cases h : (List.range n).all p = true
  · rw [if_pos h]
    exact loop_run (fun i => i) n (fun i hi => h1 i hi (List.all_eq_true.1 h i (by simpa using hi))) h3 hn
  · rw [if_neg h]
    obtain ⟨j, g1, g2, g3⟩ := all_find n h
    exact loop_run (fun i => i) j (fun i hi => h1 i (by omega) (g3 i hi)) (h2 j g1 g2) (by omega)

theorem take_nth {α : Type} [Inhabited α] {l : List α} {i : Nat} (h : i < l.length) : l.take (i + 1) = l.take i ++ [nth l i] := by
  rw [List.take_add_one, nth_some h]; rfl
theorem nth_mem {α : Type} [Inhabited α] {l : List α} {i : Nat} (h : i < l.length) : nth l i ∈ l := by rw [show nth l i = l[i] by simp [nth, List.getD, h]]; exact List.getElem_mem h
theorem nth_get {α : Type} [Inhabited α] {l : List α} {i : Nat} (h : i < l.length) : nth l i = l[i] := by simp [nth, List.getD, h]
/-- a loop with an invariant -/
theorem loop_inv {S R : Type} {round : S → Option (S ⊕ R)} {Q : R → Prop} (I : Nat → S → Prop) (m : Nat) (s0 : S) (h0 : I 0 s0) (step : ∀ i s, i < m → I i s → ∃ s', round s = some (.inl s') ∧ I (i + 1) s')
    (last : ∀ s, I m s → ∃ r, round s = some (.inr r) ∧ Q r) (hm : m < FU) : ∃ r, loopN round FU s0 = some r ∧ Q r := by
  have key : ∀ d i n s, i + d = m → d < n → I i s → ∃ r, loopN round n s = some r ∧ Q r := by
    intro d
    induction d with
    | zero =>
      intro i n s hi hn h
      obtain rfl : i = m := by omega
      obtain ⟨r, h1, h2⟩ := last s h
      cases n with
      | zero => omega
      | succ n => exact ⟨r, by simp [loopN, h1], h2⟩
    | succ d ih =>
      intro i n s hi hn h
      obtain ⟨s', h1, h2⟩ := step i s (by omega) h
      cases n with
      | zero => omega
      | succ n =>
        obtain ⟨r, h3, h4⟩ := ih (i + 1) n s' (by omega) (by omega) h2
        exact ⟨r, by simp [loopN, h1, h3], h4⟩
  exact key m 0 FU s0 (by omega) hm h0
end Go.Ab
end

section
/-
  PLAIN LAW: WORDS OF 64 BITS AS SETS.
-/
namespace Go.Ab
set_option linter.unusedVariables false

def isW (x : Int) : Prop := 0 ≤ x ∧ x < 18446744073709551616
theorem isW_nat {n : Nat} (h : n < 2 ^ 64) : isW (n : Int) := ⟨Int.natCast_nonneg _, by omega⟩
theorem wrap_u64 {n : Int} (h : isW n) : IntKind.u64.wrap n = n := wrap_id (k := .u64) ⟨h.1, by have := h.2; simp only [hi]; omega⟩
theorem bv_toNat {x : Int} (h : isW x) : (BitVec.ofInt 64 x).toNat = x.toNat := by
  obtain ⟨n, rfl⟩ : ∃ n : Nat, x = n := ⟨x.toNat, by have := h.1; omega⟩
  have h2 : n < 2 ^ 64 := by have := h.2; omega
  simp [Nat.mod_eq_of_lt h2]
theorem andI_eq (a b : Int) : andI .u64 a b = IntKind.u64.wrap ((BitVec.ofInt 64 a &&& BitVec.ofInt 64 b).toNat : Int) := rfl
theorem orI_eq (a b : Int) : orI' .u64 a b = IntKind.u64.wrap ((BitVec.ofInt 64 a ||| BitVec.ofInt 64 b).toNat : Int) := rfl
theorem andNotI_eq (a b : Int) : andNotI .u64 a b = IntKind.u64.wrap ((BitVec.ofInt 64 a &&& ~~~BitVec.ofInt 64 b).toNat : Int) := rfl
theorem shl_one {k : Nat} (h : k < 64) : shlI .u64 1 (k : Int) = ((2 ^ k : Nat) : Int) := by
  have e : min (k : Int).toNat IntKind.u64.bits = k := by show min (k : Int).toNat 64 = k; omega
  simp only [shlI, e, Int.one_mul]
  have : (2 : Nat) ^ k < 2 ^ 64 := Nat.pow_lt_pow_right (by omega) h
  have h3 : ((2 : Int) ^ k) = ((2 ^ k : Nat) : Int) := by simp
  rw [h3, wrap_u64 (isW_nat this)]
theorem pow_isW {k : Nat} (h : k < 64) : isW ((2 ^ k : Nat) : Int) := by
  have : (2 : Nat) ^ k < 2 ^ 64 := Nat.pow_lt_pow_right (by omega) h
  exact isW_nat this
/-- has a word a bit? -/
def bitI (x : Int) (k : Nat) : Bool := x.toNat.testBit k
theorem has_bit {x : Int} (hx : isW x) {k : Nat} (h : k < 64) : (andI .u64 (shrI .u64 x (k : Int)) 1 == 1) = bitI x k := by
  have hb : IntKind.u64.bits = 64 := rfl
  have e : min (k : Int).toNat IntKind.u64.bits = k := by rw [hb]; omega
  obtain ⟨n, rfl⟩ : ∃ n : Nat, x = n := ⟨x.toNat, by have := hx.1; omega⟩
  have hn : n < 2 ^ 64 := by have := hx.2; omega
  have e0 : shrI .u64 (n : Int) (k : Int) = (n : Int).fdiv (2 ^ k) := by simp only [shrI, e]
  rw [e0, andI_eq]
  have e1 : (n : Int).fdiv (2 ^ k) = ((n / 2 ^ k : Nat) : Int) := by
    rw [Int.fdiv_eq_ediv_of_nonneg _ (Int.le_of_lt (Int.pow_pos (by omega)))]
    simp
  rw [e1]
  have h2 : n / 2 ^ k < 2 ^ 64 := Nat.lt_of_le_of_lt (Nat.div_le_self _ _) hn
  rw [BitVec.toNat_and, bv_toNat (isW_nat h2)]
  have e3 : (BitVec.ofInt 64 1).toNat = 1 := rfl
  rw [e3, wrap_u64 (⟨by omega, by have := Nat.and_le_right (n := (((n / 2 ^ k : Nat) : Int)).toNat) (m := 1); omega⟩)]
  simp only [bitI, Int.toNat_natCast, Nat.testBit_eq_decide_div_mod_eq, Nat.and_one_is_mod]
  by_cases hc : n / 2 ^ k % 2 = 1
  · simp [hc]
  · have : n / 2 ^ k % 2 = 0 := by omega
    simp [this]
theorem or_bit {x : Int} (hx : isW x) {k : Nat} (h : k < 64) : isW (orI' .u64 x (shlI .u64 1 (k : Int))) ∧ ∀ j, bitI (orI' .u64 x (shlI .u64 1 (k : Int))) j = (bitI x j || decide (j = k)) := by
  have hb : IntKind.u64.bits = 64 := rfl
  rw [shl_one h]
  have hp := pow_isW h
  rw [orI_eq]
  have hlt : (BitVec.ofInt 64 x ||| BitVec.ofInt 64 ((2 ^ k : Nat) : Int)).toNat < 2 ^ 64 := (BitVec.ofInt 64 x ||| BitVec.ofInt 64 ((2 ^ k : Nat) : Int)).isLt
  have hw : isW (((BitVec.ofInt 64 x ||| BitVec.ofInt 64 ((2 ^ k : Nat) : Int)).toNat : Nat) : Int) := isW_nat hlt
  rw [wrap_u64 hw]
  refine ⟨hw, fun j => ?_⟩
  simp only [bitI, Int.toNat_natCast, BitVec.toNat_or, Nat.testBit_or, bv_toNat hx, bv_toNat hp, Nat.testBit_two_pow]
  congr 1
  simp [eq_comm]
theorem andNot_bit {x : Int} (hx : isW x) {k : Nat} (h : k < 64) : isW (andNotI .u64 x (shlI .u64 1 (k : Int))) ∧ ∀ j, j < 64 → bitI (andNotI .u64 x (shlI .u64 1 (k : Int))) j = (bitI x j && decide (j ≠ k)) := by
  have hb : IntKind.u64.bits = 64 := rfl
  rw [shl_one h]
  have hp := pow_isW h
  rw [andNotI_eq]
  have hlt : (BitVec.ofInt 64 x &&& ~~~BitVec.ofInt 64 ((2 ^ k : Nat) : Int)).toNat < 2 ^ 64 := (BitVec.ofInt 64 x &&& ~~~BitVec.ofInt 64 ((2 ^ k : Nat) : Int)).isLt
  have hw : isW (((BitVec.ofInt 64 x &&& ~~~BitVec.ofInt 64 ((2 ^ k : Nat) : Int)).toNat : Nat) : Int) := isW_nat hlt
  rw [wrap_u64 hw]
  refine ⟨hw, fun j hj => ?_⟩
  simp only [bitI, Int.toNat_natCast]
  have e1 : ∀ y : BitVec 64, y.toNat.testBit j = y.getLsbD j := fun y => BitVec.testBit_toNat y
  rw [e1, BitVec.getLsbD_and, BitVec.getLsbD_not, ← e1, ← e1, bv_toNat hx, bv_toNat hp]
  simp only [Int.toNat_natCast, Nat.testBit_two_pow, hj, decide_true, Bool.true_and]
  congr 1
  by_cases e : k = j
  · simp [e]
  · simp [e, Ne.symm e]

/-- a row of eight words as a set of numbers -/
def WF (f : Nat → Int) : Prop := ∀ i, isW (f i)
def hasF (f : Nat → Int) (v : Nat) : Bool := bitI (f (v / 64)) (v % 64)
theorem wf_zero : WF (fun _ => 0) := fun _ => ⟨Int.le_refl 0, (by decide : (0 : Int) < 18446744073709551616)⟩
theorem has_zero (v : Nat) : hasF (fun _ => 0) v = false := by simp [hasF, bitI]
theorem putF_get (f : Nat → Int) (k : Nat) (x : Int) (i : Nat) : putF f k x i = if i = k then x else f i := by
  simp only [putF]
  by_cases e : i = k
  · subst e; simp [Nat.beq_refl]
  · rw [if_neg e, show Nat.beq i k = false from Bool.eq_false_iff.2 fun x => e (Nat.eq_of_beq_eq_true x)]; rfl
theorem put_has {f : Nat → Int} (hf : WF f) (v : Nat) : WF (putF f (v / 64) (orI' .u64 (f (v / 64)) (shlI .u64 1 ((v % 64 : Nat) : Int)))) ∧
    ∀ w, hasF (putF f (v / 64) (orI' .u64 (f (v / 64)) (shlI .u64 1 ((v % 64 : Nat) : Int)))) w = (hasF f w || decide (w = v)) := by
  obtain ⟨h1, h2⟩ := or_bit (hf (v / 64)) (Nat.mod_lt v (by omega : 64 > 0))
  refine ⟨fun i => ?_, fun w => ?_⟩
  · rw [putF_get]; split
    · exact h1
    · exact hf i
  · simp only [hasF, putF_get]
    by_cases e : w / 64 = v / 64
    · rw [if_pos e, h2, e]
      congr 1
      simp only [decide_eq_decide]
      omega
    · rw [if_neg e]
      have : w ≠ v := fun x => e (by rw [x])
      simp [this]
theorem drop_has {f : Nat → Int} (hf : WF f) (v : Nat) : WF (putF f (v / 64) (andNotI .u64 (f (v / 64)) (shlI .u64 1 ((v % 64 : Nat) : Int)))) ∧
    ∀ w, hasF (putF f (v / 64) (andNotI .u64 (f (v / 64)) (shlI .u64 1 ((v % 64 : Nat) : Int)))) w = (hasF f w && decide (w ≠ v)) := by
  obtain ⟨h1, h2⟩ := andNot_bit (hf (v / 64)) (Nat.mod_lt v (by omega : 64 > 0))
  refine ⟨fun i => ?_, fun w => ?_⟩
  · rw [putF_get]; split
    · exact h1
    · exact hf i
  · simp only [hasF, putF_get]
    by_cases e : w / 64 = v / 64
    · rw [if_pos e, h2 _ (Nat.mod_lt w (by omega)), e]
      congr 1
      simp only [decide_eq_decide]
      omega
    · rw [if_neg e]
      have : w ≠ v := fun x => e (by rw [x])
      simp [this]
end Go.Ab
end
