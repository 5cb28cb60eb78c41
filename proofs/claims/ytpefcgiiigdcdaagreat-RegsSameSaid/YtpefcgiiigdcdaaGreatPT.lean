/-
  TEXTS PUT TOGETHER: PlT1, PlT2, PlT3, PlT4, PlT5, PlT6, PlT7, PlT8, PlT9.
-/
import Derived.Test.YtpefcgiiigdcdaaGreatPH
import Derived.Test.YtpefcgiiigdcdaaGreatPI
import Derived.Test.YtpefcgiiigdcdaaGreatTO
section
/-
  PLAIN LAW: HOW MANY DIGITS A NUMBER HAS, as the program's deci.Digits and the document's Print have it.
-/
namespace Go.Ab.M
open Go.Proofs Go.Ab
set_option linter.unusedVariables false
set_option linter.unusedSimpArgs false

def ndig (v : Nat) : Nat := if h : v < 10 then 1 else 1 + ndig (v / 10)
termination_by v
decreasing_by omega
theorem ndig_small {v : Nat} (h : v < 10) : ndig v = 1 := by unfold ndig; rw [dif_pos h]
theorem ndig_big {v : Nat} (h : ¬ v < 10) : ndig v = 1 + ndig (v / 10) := by rw [ndig, dif_neg h]
theorem ndig_le : ∀ (k v : Nat), v < 10 ^ (k + 1) → ndig v ≤ k + 1
  | 0, v, h => by rw [ndig_small (by simpa using h)]; omega
  | k + 1, v, h => by
    by_cases c : v < 10
    · rw [ndig_small c]; omega
    · rw [ndig_big c]
      have := ndig_le k (v / 10) (by rw [Nat.pow_succ] at h; omega)
      omega
theorem loopN_at {S R : Type} {round : S → Option (S ⊕ R)} {s : S} {y : S ⊕ R} (h : round s = some y) (n : Nat) : loopN round (n + 1) s = caseS y (fun s' => loopN round n s') (fun r => some r) := by
  simp only [loopN, h, Option.bind_some]
theorem printl_pos {a : List Int} {out : List Int} {v : Nat} {r : Nat} (hb : nat_Bits a = some (r : Int)) (hr : 0 < r) (hs : split_Small a 10 = some (natW (v / 10), ((v % 10 : Nat) : Int), true)) (ho : out.length + 1 ≤ 2147483648) :
    deci_Print_l_rd a out = some (.inl (natW (v / 10), out ++ [IntKind.wrap .u8 (IntKind.wrap .u32 (48 + ((v % 10 : Nat) : Int)))])) := by
  have h0 : ((r : Nat) : Int) > 0 := by omega
  simp only [deci_Print_l_rd, hb, hs, Option.bind_some, Bool.cond_decide, if_pos h0, if_pos ho]
theorem printl_end {out : List Int} {n : Nat} (h2 : (natW 0).length ≤ 200000000) (h5 : 0 < out.length) :
    ∃ r, loopN (fun (σ : List Int × List Int) => deci_Print_l_rd σ.1 σ.2) (n + 1) (natW 0, out) = some r ∧ r.length = out.length + (if 0 = 0 then 0 else ndig 0) := by
  obtain ⟨r, e1, e2⟩ := nat_Bits_eq (natW_wds 0) h2
  rw [val_natW] at e2
  obtain rfl : r = 0 := by omega
  have e3 : (((out.length : Nat) : Int) == 0) = false := by rw [beq_eq_false_iff_ne]; omega
  have e4 : ¬ (((0 : Nat) : Int) > 0) := by omega
  refine ⟨out, ?_, by simp⟩
  have : deci_Print_l_rd (natW 0) out = some (.inr out) := by
    simp only [deci_Print_l_rd, e1, Option.bind_some, Bool.cond_decide, if_neg e4, e3, cond_false]
  exact (loopN_at (round := fun (σ : List Int × List Int) => deci_Print_l_rd σ.1 σ.2) (s := (natW 0, out)) this n).trans rfl
theorem printl_all (k : Nat) : ∀ (v : Nat) (out : List Int) (n : Nat), v < 10 ^ k → (natW v).length ≤ 200000000 → k + 1 < n → out.length + k + 1 ≤ 2147483648 → 0 < out.length →
    ∃ r, loopN (fun (σ : List Int × List Int) => deci_Print_l_rd σ.1 σ.2) n (natW v, out) = some r ∧ r.length = out.length + (if v = 0 then 0 else ndig v) := by
  induction k with
  | zero =>
    intro v out n h1 h2 h3 h4 h5
    obtain rfl : v = 0 := by simpa using h1
    obtain ⟨n, rfl⟩ : ∃ m, n = m + 1 := ⟨n - 1, by omega⟩
    exact printl_end h2 h5
  | succ k ih =>
    intro v out n h1 h2 h3 h4 h5
    obtain ⟨n, rfl⟩ : ∃ m, n = m + 1 := ⟨n - 1, by omega⟩
    by_cases hv : v = 0
    · subst hv; exact printl_end h2 h5
    obtain ⟨r, e1, e2⟩ := nat_Bits_eq (natW_wds v) h2
    rw [val_natW] at e2
    have hs := split_Small_eq (natW_wds v) (d := 10) (by decide) (by decide) (by omega)
    rw [val_natW] at hs
    have hd : v / 10 < 10 ^ k := by rw [Nat.pow_succ] at h1; omega
    generalize hx : IntKind.wrap .u8 (IntKind.wrap .u32 (48 + ((v % 10 : Nat) : Int))) = x
    obtain ⟨q, f1, f2⟩ := ih (v / 10) (out ++ [x]) n hd (Nat.le_trans (natW_mono (Nat.div_le_self _ _)) h2) (by omega) (by rw [List.length_append, List.length_singleton]; omega) (by rw [List.length_append, List.length_singleton]; omega)
    refine ⟨q, ?_, ?_⟩
    · have := printl_pos e1 (e2.2 (by omega)) hs (by omega : out.length + 1 ≤ 2147483648)
      rw [hx] at this
      exact (loopN_at (round := fun (σ : List Int × List Int) => deci_Print_l_rd σ.1 σ.2) (s := (natW v, out)) this n).trans f1
    · rw [f2, List.length_append, List.length_singleton, if_neg hv]
      by_cases c : v < 10
      · rw [ndig_small c, if_pos (by omega)]
      · rw [ndig_big c, if_neg (by omega)]; omega
theorem printl_eq {v : Nat} {k : Nat} (h1 : v < 10 ^ k) (h2 : (natW v).length ≤ 200000000) (h3 : k ≤ 100000) : ∃ r, deci_Print_l (natW v) [] = some r ∧ r.length = ndig v ∧ 0 < r.length := by
  obtain ⟨r, e1, e2⟩ := nat_Bits_eq (natW_wds v) h2
  have hs : split_Small (natW v) 10 = some (natW (val (natW v) / 10), ((val (natW v) % 10 : Nat) : Int), true) := split_Small_eq (natW_wds v) (d := 10) (by decide) (by decide) (by omega)
  rw [val_natW] at hs
  have hrd : deci_Print_l_rd (natW v) [] = some (.inl (natW (v / 10), [] ++ [IntKind.wrap .u8 (IntKind.wrap .u32 (48 + ((v % 10 : Nat) : Int)))])) := by
    by_cases c : 0 < r
    · exact printl_pos e1 c hs (by simp)
    · have h0 : ¬ ((r : Nat) : Int) > 0 := by omega
      have h00 : ((([] : List Int).length : Nat) : Int) == 0 := rfl
      have h01 : ([] : List Int).length + 1 ≤ 2147483648 := by simp
      simp only [deci_Print_l_rd, e1, hs, Option.bind_some, Bool.cond_decide, if_neg h0, h00, cond_true, if_pos h01]
  obtain ⟨q, f1, f2⟩ := printl_all k (v / 10) [IntKind.wrap .u8 (IntKind.wrap .u32 (48 + ((v % 10 : Nat) : Int)))] 999999999 (Nat.lt_of_le_of_lt (Nat.div_le_self _ _) h1) (Nat.le_trans (natW_mono (Nat.div_le_self _ _)) h2) (by omega) (by simp; omega) (by simp)
  refine ⟨q, (loopN_at (round := fun (σ : List Int × List Int) => deci_Print_l_rd σ.1 σ.2) (s := (natW v, [])) hrd 999999999).trans f1, ?_, ?_⟩
  · rw [f2, List.length_singleton]
    by_cases c : v < 10
    · rw [ndig_small c, if_pos (by omega)]
    · rw [ndig_big c, if_neg (by omega)]
  · rw [f2, List.length_singleton]; omega
theorem reverse_len {s : List Int} (hl : s.length ≤ 1000000) : ∃ r, slices_Reverse_byte_byte_2 s = some r ∧ r.length = s.length := by
  have key : ∃ r, slices_Reverse_byte_byte_l_2 0 (((s.length : Nat) : Int) - 1) s = some r ∧ r.length = s.length := by
    unfold slices_Reverse_byte_byte_l_2
    refine loop_inv (round := fun (σ : Nat × Int × List Int) => slices_Reverse_byte_byte_l_2_rd σ.1 σ.2.1 σ.2.2) (fun i σ => σ.1 = i ∧ σ.2.1 = (s.length : Int) - 1 - i ∧ σ.2.2.length = s.length) (s.length / 2) (0, ((s.length : Nat) : Int) - 1, s) ⟨rfl, by simp, rfl⟩ ?_ ?_ (by simp only [FU]; omega)
    · rintro i ⟨a, j, l⟩ hi ⟨rfl, h2, h3⟩
      dsimp only at h2 h3 ⊢
      have g1 : ((a : Nat) : Int) < j := by omega
      have g2 : (0 : Int) ≤ j := by omega
      have g3 : j.toNat < l.length := by omega
      have g4 : a < l.length := by omega
      have g5 : j.toNat < (l.set a (nth l j.toNat)).length := by rw [List.length_set]; exact g3
      refine ⟨(a + 1, j - 1, (l.set a (nth l j.toNat)).set j.toNat (nth l a)), ?_, ?_, ?_, ?_⟩
      · simp (disch := omega) only [slices_Reverse_byte_byte_l_2_rd, Bool.cond_decide, if_pos g1, if_pos g2, if_pos g3, if_pos g4, if_pos g5, inK_i64, cond_true]
      · rfl
      · dsimp only; omega
      · simp [h3]
    · rintro ⟨a, j, l⟩ ⟨h1, h2, h3⟩
      dsimp only at h1 h2 h3 ⊢
      have g1 : ¬ ((a : Nat) : Int) < j := by omega
      exact ⟨l, by simp only [slices_Reverse_byte_byte_l_2_rd, Bool.cond_decide, if_neg g1], h3⟩
  obtain ⟨r, h1, h2⟩ := key
  exact ⟨r, by simp (disch := omega) only [slices_Reverse_byte_byte_2, inK_i64, cond_true, h1, Option.bind_some], h2⟩
theorem strOfNums_size (l : List Int) : (strOfNums l).size = l.length := by
  unfold strOfNums
  simp [ByteArray.size]
theorem deci_Digits_eq {v k : Nat} (h1 : v < 10 ^ k) (h2 : (natW v).length ≤ 200000000) (h3 : k ≤ 100000) : deci_Digits (natW v) = some ((ndig v : Nat) : Int) := by
  obtain ⟨r, e1, e2, e3⟩ := printl_eq h1 h2 h3
  have hk : ndig v ≤ 1000000 := by
    cases k with
    | zero => rw [ndig_small (by simp at h1; omega)]; omega
    | succ k => have := ndig_le k v h1; omega
  obtain ⟨q, f1, f2⟩ := reverse_len (s := r) (by omega)
  have he : r.isEmpty = false := by cases r with
    | nil => simp at e3
    | cons x y => rfl
  simp only [deci_Digits, deci_Print, e1, Option.bind_some, he, cond_false, f1, strOfNums_size, f2, e2]
end Go.Ab.M
end

section
/-
  PLAIN LAW: TAPES OF SMALL NUMBERS, their weights, as the program and the document have them.
-/
namespace Go.Ab.M
open Go.Proofs Go.Ab
set_option linter.unusedVariables false
set_option linter.unusedSimpArgs false

abbrev noR : Rat := ⟨false, [], []⟩
/-- an op at a place with n places ahead, and its weight -/
inductive OpOk (w : List Int) (n : Nat) : TOp → Int → Prop
  | con (q : _root_.Rat) (h1 : q.num.natAbs ≤ 128) (h2 : q.den ≤ 256) : OpOk w n ⟨1, 0, 0, 0, ofR q⟩ 1
  | bin (c a b : Nat) (h1 : 2 ≤ c) (h2 : c ≤ 5) (ha : a < n) (hb : b < n) : OpOk w n ⟨(c : Int), (a : Int), (b : Int), 0, noR⟩ (nth w a + nth w b)
  | neg (a : Nat) (ha : a < n) : OpOk w n ⟨6, (a : Int), 0, 0, noR⟩ (nth w a)
  | pow (a : Nat) (e : Int) (ha : a < n) (h1 : -3 ≤ e) (h2 : e ≤ 3) : OpOk w n ⟨7, (a : Int), 0, e, noR⟩ (nth w a * max 1 (e.natAbs : Int))
theorem nth_app {α : Type} [Inhabited α] {l m : List α} {i : Nat} (h : i < l.length) : nth (l ++ m) i = nth l i := by
  simp [nth, List.getD, List.getElem?_append_left h]
theorem nth_snoc {α : Type} [Inhabited α] {l : List α} {x : α} : nth (l ++ [x]) l.length = x := by
  simp [nth, List.getD]
theorem sz1_of {q : _root_.Rat} (h1 : q.num.natAbs ≤ 128) (h2 : q.den ≤ 256) : szQ 1 q := by
  unfold szQ; rw [Nat.pow_one]; omega
/-! ### the program -/
/-! ### the document -/
end Go.Ab.M
end

section
/-
  PLAIN LAW: THE WEIGHTS OF A TAPE OF SMALL NUMBERS, by the program and by the document.
-/
namespace Go.Ab.M
open Go.Proofs Go.Ab
set_option linter.unusedVariables false
set_option linter.unusedSimpArgs false

theorem nth_ones {n i : Nat} (h : i < n) : nth (List.replicate n (1 : Int)) i = 1 := by
  simp [nth, List.getD, List.getElem?_replicate, h]
/-! ### the program -/
/-! ### the document -/
/-! ### the tapes of small numbers -/
theorem wrap_i8 {n : Int} : -128 ≤ IntKind.wrap .i8 n ∧ IntKind.wrap .i8 n ≤ 127 := by
  have e : IntKind.wrap .i8 n = (if (true && decide (n % 256 ≥ 128)) = true then n % 256 - 256 else n % 256) := rfl
  rw [e, Bool.true_and]
  by_cases c : n % 256 ≥ 128
  · rw [decide_eq_true c, if_pos rfl]; omega
  · rw [decide_eq_false c, if_neg (by decide)]; omega
theorem small_const {n d : Int} (h1 : -128 ≤ n) (h2 : n ≤ 127) (h3 : 0 ≤ d) (h4 : d ≤ 255) : ∃ q : _root_.Rat, ref08_Small n d = some (ofR q) ∧ q.num.natAbs ≤ 128 ∧ q.den ≤ 256 := by
  refine ⟨_, ref08_Small_eq h1 h2 h3 h4, ?_, ?_⟩
  · rw [Rat.num_mkRat, if_neg (by omega)]
    have h5 := Int.natAbs_ediv_le_natAbs n ((Nat.gcd (d.toNat + 1) n.natAbs : Nat) : Int)
    omega
  · rw [Rat.den_mkRat, if_neg (by omega)]
    have h6 := Nat.div_le_self (d.toNat + 1) (Nat.gcd (d.toNat + 1) n.natAbs)
    omega
end Go.Ab.M
end

section
/-
  PLAIN LAW: THE TAPES MADE OF SMALL NUMBERS.
-/
namespace Go.Ab.M
open Go.Proofs Go.Ab
set_option linter.unusedVariables false
set_option linter.unusedSimpArgs false

/-- what is there after some ops -/
structure PartOk (I : Nat) (w : List Int) (o : List TOp) : Prop where
  len : w.length = I + o.length
  w1 : ∀ i, i < I → nth w i = 1
  op : ∀ i, i < o.length → OpOk w (I + i) (nth o i) (nth w (I + i))
  bd : ∀ i, i < w.length → 1 ≤ nth w i ∧ nth w i ≤ 12
theorem PartOk.first (I : Nat) : PartOk I (List.replicate I 1) [] := ⟨by simp, fun i hi => nth_ones hi, fun i hi => by simp at hi, fun i hi => by rw [nth_ones (by simpa using hi)]; omega⟩
end Go.Ab.M
end

section
/-
  PLAIN LAW: HOW GREAT A TAPE'S VALUES AND DERIVATIVES ARE: a value is z / q, its derivative y / (q q E), with z, q, y bounded by its weight.
-/
namespace Go.Ab.M
open Go.Proofs Go.Ab
set_option linter.unusedVariables false
set_option linter.unusedSimpArgs false

def CW (w : Nat) : Nat := 8589934592 ^ w
theorem CW_pos (w : Nat) : 1 ≤ CW w := Nat.pow_pos (by decide)
/-- a value v of the weight w, and its derivative d -/
def RD (E : Int) (M w : Nat) (v d : _root_.Rat) : Prop := ∃ z q y : Int, q ≠ 0 ∧ v * (q : _root_.Rat) = (z : _root_.Rat) ∧ 2 * z.natAbs ≤ CW w ∧ 2 * q.natAbs ≤ CW w ∧ d * ((q : _root_.Rat) * (q : _root_.Rat) * (E : _root_.Rat)) = (y : _root_.Rat) ∧ y.natAbs ≤ w * M * (CW w * CW w)
theorem cast_ne {q : Int} (h : q ≠ 0) : (q : _root_.Rat) ≠ 0 := fun e => h (by exact_mod_cast e)
theorem num_of_den (v : _root_.Rat) : v * ((v.den : Nat) : _root_.Rat) = (v.num : _root_.Rat) := by
  have h : v = (v.num : _root_.Rat) / ((v.den : Int) : _root_.Rat) := by rw [← Rat.divInt_eq_div, Rat.num_divInt_den]
  have hd : ((v.den : Nat) : _root_.Rat) ≠ 0 := by
    have := cast_ne (q := (v.den : Int)) (by have := v.den_pos; omega)
    rwa [Rat.intCast_natCast] at this
  rw [Rat.intCast_natCast] at h
  generalize ((v.den : Nat) : _root_.Rat) = x at *
  generalize (v.num : _root_.Rat) = y at *
  rw [h]; grind
/-! ### powers -/
/-! ### sizes -/
theorem of_mul {v : _root_.Rat} {z q : Int} (hq : q ≠ 0) (h : v * (q : _root_.Rat) = (z : _root_.Rat)) : v.num.natAbs ≤ z.natAbs ∧ v.den ≤ q.natAbs := by
  have e : v = Rat.divInt z q := by
    have := cast_ne hq
    rw [Rat.divInt_eq_div, ← h]; grind
  have e2 : v.num * q = z * v.den := by
    have h0 : (v.num : _root_.Rat) = v * (v.den : _root_.Rat) := (num_of_den v).symm
    have : ((v.num * q : Int) : _root_.Rat) = ((z * v.den : Int) : _root_.Rat) := by
      rw [Rat.intCast_mul, Rat.intCast_mul, ← h, h0, Rat.intCast_natCast]; grind
    exact_mod_cast this
  have e3 : v.num.natAbs * q.natAbs = z.natAbs * v.den := by
    have := congrArg Int.natAbs e2
    rwa [Int.natAbs_mul, Int.natAbs_mul, Int.natAbs_natCast] at this
  have hc : Nat.Coprime v.den v.num.natAbs := v.reduced.symm
  have hd : v.den ∣ q.natAbs := hc.dvd_of_dvd_mul_left (e3 ▸ Nat.dvd_mul_left _ _)
  obtain ⟨t, ht⟩ := hd
  have hq' : 0 < q.natAbs := Int.natAbs_pos.2 hq
  have ht0 : 0 < t := by
    rcases Nat.eq_zero_or_pos t with e | e
    · rw [e, Nat.mul_zero] at ht; omega
    · exact e
  refine ⟨?_, by rw [ht]; exact Nat.le_mul_of_pos_right _ ht0⟩
  have e4 : v.num.natAbs * t = z.natAbs := by
    rw [ht] at e3
    have : v.den * (v.num.natAbs * t) = v.den * z.natAbs := by rw [Nat.mul_comm v.den z.natAbs, ← e3]; grind
    exact Nat.eq_of_mul_eq_mul_left v.den_pos this
  rw [← e4]
  exact Nat.le_mul_of_pos_right _ ht0
theorem CW_words {w : Nat} (h : w ≤ 12) : CW w ≤ 4294967296 ^ 13 := by
  have : CW w ≤ CW 12 := Nat.pow_le_pow_right (by decide) h
  exact Nat.le_trans this (by decide)
theorem RD.val {E : Int} {M w : Nat} {v d : _root_.Rat} (h : RD E M w v d) (hw : w ≤ 12) : szQ 13 v := by
  obtain ⟨z, q, y, h1, h2, h3, h4, h5, h6⟩ := h
  have a := of_mul h1 h2
  have c := CW_words hw
  have p := CW_pos w
  unfold szQ
  generalize (4294967296 : Nat) ^ 13 = W at c ⊢
  omega
end Go.Ab.M
end

section
/-
  PLAIN LAW: WHAT AN OP COMES TO, its partials, its size.
-/
namespace Go.Ab.M
open Go.Proofs Go.Ab
set_option linter.unusedVariables false
set_option linter.unusedSimpArgs false

theorem nthm {α β : Type} [Inhabited α] [Inhabited β] (f : α → β) {l : List α} {i : Nat} (h : i < l.length) : nth (l.map f) i = f (nth l i) := by
  rw [nth_get (by simpa using h), nth_get h, List.getElem_map]
/-- what an op comes to, or that it divides by 0 -/
def evOp (o : TOp) (p q : _root_.Rat) : Option _root_.Rat :=
  if o.Code = 2 then some (p + q) else if o.Code = 3 then some (p - q) else if o.Code = 4 then some (p * q)
  else if o.Code = 5 then (if q = 0 then none else some (p / q)) else if o.Code = 6 then some (-p)
  else if o.Code = 7 then (if o.Exp < 0 ∧ p = 0 then none else some (p ^ o.Exp)) else some (qR o.Num)
end Go.Ab.M
end

section
/-
  PLAIN LAW: WHAT A TAPE COMES TO, by the program and by the document.
-/
namespace Go.Ab.M
open Go.Proofs Go.Ab
set_option linter.unusedVariables false
set_option linter.unusedSimpArgs false

abbrev enc (v : List _root_.Rat) : List Rat := v.map ofR
/-- values that are as great as their weights let them be -/
def VOk (w : List Int) (v : List _root_.Rat) : Prop := ∀ i, i < v.length → RD 1 0 (nth w i).toNat (nth v i) 0
theorem VOk.ok {w : List Int} {v : List _root_.Rat} (h : VOk w v) (hb : ∀ i, i < w.length → 1 ≤ nth w i ∧ nth w i ≤ 12) (hl : v.length ≤ w.length) {a : Nat} (ha : a < v.length) : szQ 13 (nth v a) ∧ okL 13 (nth (enc v) a) ∧ qR (nth (enc v) a) = nth v a := by
  have b := hb a (by omega)
  have s := (h a ha).val (by omega)
  rw [nthm ofR ha]
  exact ⟨s, s.ok, qR_ofR _⟩
/-! ### the program -/
/-! ### the document -/
end Go.Ab.M
end

section
/-
  PLAIN LAW: THE VALUES OF A TAPE'S PLACES, by the program and by the document.
-/
namespace Go.Ab.M
open Go.Proofs Go.Ab
set_option linter.unusedVariables false
set_option linter.unusedSimpArgs false

/-! ### both -/
end Go.Ab.M
end

section
/-
  PLAIN LAW: THE DERIVATIVE OF A TAPE ALONG A DIRECTION, by the program and by the document.
-/
namespace Go.Ab.M
open Go.Proofs Go.Ab
set_option linter.unusedVariables false
set_option linter.unusedSimpArgs false

/-! ### the values, place by place -/
/-- a list of values is a tape's: each op's is what it comes to -/
structure Vals (t : Tape) (w : List Int) (I : Nat) (u : List _root_.Rat) : Prop where
  len : u.length = w.length
  ok : VOk w u
  at' : ∀ i, i < t.Ops.length → evOp (nth t.Ops i) (nth u (nth t.Ops i).A_.toNat) (nth u (nth t.Ops i).B_.toNat) = some (nth u (I + i))
/-! ### derivatives -/
/-! ### directions -/
end Go.Ab.M
end
