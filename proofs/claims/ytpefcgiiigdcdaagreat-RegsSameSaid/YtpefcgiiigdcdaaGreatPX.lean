/-
  TEXTS PUT TOGETHER: PlRg1, PlRg2, PlRg3, PlRg4, PlRg5, PlRg6, PlRg7, PlRg8, PlRgM.
-/
import Derived.Test.YtpefcgiiigdcdaaGreatPT
import Derived.Test.YtpefcgiiigdcdaaGreatPG
import Derived.Test.YtpefcgiiigdcdaaGreatPE
import Derived.Test.YtpefcgiiigdcdaaGreatTO
section
/-
  PLAIN LAW: RIGHT CODES, by the program and by the document.
-/
namespace Go.Ab.M
open Go.Proofs Go.Ab
set_option linter.unusedVariables false
set_option linter.unusedSimpArgs false

abbrev nulR : Rat := Rat.mk false [] []
/-- how many of A and B an Op reads -/
def opk (op : Int) : Nat := if 2 ≤ op ∧ op ≤ 5 ∨ op = 8 ∨ op = 9 then 2 else if op = 6 ∨ op = 7 ∨ op = 10 then 1 else 0
/-- the registers that an instruction reads -/
def rgs (x : Instr) : List Int := if opk x.Op = 2 then [x.A_, x.B_] else if opk x.Op = 1 then [x.A_] else []
def numB (x : Instr) : Bool := if x.Op = 1 then isR x.Num && (decide (ndig (val x.Num.Num) ≤ 40) && decide (ndig (val x.Num.Den) ≤ 40)) else decide (x.Num = nulR)
def aB (I : Int) (wr : List Int) (x : Instr) : Bool := if x.Op = 0 then decide (0 ≤ x.A_) && decide (x.A_ < I) else if x.Op = 1 then decide (x.A_ = 0) else decide (x.A_ ∈ wr)
def bB (wr : List Int) (x : Instr) : Bool := if opk x.Op = 2 then decide (x.B_ ∈ wr) else if x.Op = 7 then decide (-21 ≤ x.B_) && decide (x.B_ ≤ 21) else decide (x.B_ = 0)
def tB (c : Code) (x : Instr) : Bool := decide (0 ≤ x.To) && decide (x.To < if x.Op = 10 then c.Rows * c.Cols else c.Regs)
def insB (c : Code) (wr : List Int) (x : Instr) : Bool := (decide (0 ≤ x.Op) && decide (x.Op ≤ 10)) && numB x && aB c.Ins wr x && bB wr x && tB c x
def nextW (wr : List Int) (x : Instr) : List Int := if x.Op = 10 then wr else wr ++ [x.To]
def rightF (c : Code) : List Int → List Instr → Bool
  | _, [] => true
  | wr, x :: l => insB c wr x && rightF c (nextW wr x) l
def headB (c : Code) : Bool := decide (1 ≤ c.Ins ∧ c.Ins ≤ 40 ∧ 1 ≤ c.Rows ∧ c.Rows ≤ 40 ∧ c.Cols = c.Ins ∧ 0 ≤ c.Regs ∧ c.Regs ≤ 100000 ∧ c.All.length ≤ 100000)
def rightB (c : Code) : Bool := headB c && rightF c [] c.All

theorem op_of (n : Int) : n = 0 ∨ n = 1 ∨ n = 2 ∨ n = 3 ∨ n = 4 ∨ n = 5 ∨ n = 6 ∨ n = 7 ∨ n = 8 ∨ n = 9 ∨ n = 10 ∨ n < 0 ∨ 10 < n := by omega

theorem digs_lt {a : List Int} (h : Wds a) : val a < 10 ^ (10 * a.length) := by
  have h1 := val_lt h
  have h2 : 4294967296 ^ a.length ≤ 10 ^ (10 * a.length) := by rw [Nat.pow_mul]; exact Nat.pow_le_pow_left (by decide) _
  omega
theorem vm_number_eq {x : Instr} (h : okL 64 x.Num) : vm_number x = some (numB x) := by
  have hn := h
  obtain ⟨h1, h2, h3, h4⟩ := h
  unfold vm_number numB
  by_cases c : x.Op = 1
  · simp only [c, if_true, bne_self_eq_false, cond_false, ratio_Right_eq (show okR x.Num from ⟨h1, h2, by omega, by omega⟩), Option.bind_some]
    cases hr : isR x.Num with
    | false => rfl
    | true =>
      have hr' := hr
      unfold isR at hr'
      simp only [Bool.and_eq_true] at hr'
      have e1 := (isN_iff h1).1 hr'.1.1.1.1
      have e2 := (isN_iff h2).1 hr'.1.1.1.2
      have d1 : deci_Digits x.Num.Num = some ((ndig (val x.Num.Num) : Nat) : Int) := by
        have := deci_Digits_eq (digs_lt h1) (by rw [← e1]; omega) (by omega)
        rwa [← e1] at this
      have d2 : deci_Digits x.Num.Den = some ((ndig (val x.Num.Den) : Nat) : Int) := by
        have := deci_Digits_eq (digs_lt h2) (by rw [← e2]; omega) (by omega)
        rwa [← e2] at this
      simp only [cond_true, d1, d2, Option.bind_some, Bool.cond_decide, Bool.true_and]
      by_cases q : ndig (val x.Num.Num) ≤ 40
      · rw [if_pos (by omega), decide_eq_true q, Bool.true_and]
        congr 1
        exact decide_eq_decide.2 (by omega)
      · rw [if_neg (by omega), decide_eq_false q, Bool.false_and]
  · have c' : (x.Op != 1) = true := by rw [bne_iff_ne]; exact c
    rw [c', cond_true, if_neg c]
    have hl1 : ∀ n : Nat, (((n : Int) + 1 == 0) = false) := fun n => by rw [beq_eq_false_iff_ne]; omega
    have hl2 : ∀ n : Nat, ¬ ((n : Int) + 1 = 0) := fun n => by omega
    cases hx : x.Num with
    | mk a b d => cases a <;> cases b <;> cases d <;> simp [nulR, hl1, hl2]
/-! ### the program -/
/-- which registers were written -/
structure Wrt (R : Int) (wr : List Int) (o : List Bool) : Prop where
  len : (o.length : Int) = R
  b : R ≤ 100000
  at_ : ∀ r : Nat, r < o.length → (nth o r = true ↔ (r : Int) ∈ wr)
  in_ : ∀ r, r ∈ wr → 0 ≤ r ∧ r < R
theorem vm_register_t {R : Int} {wr : List Int} {o : List Bool} (h : Wrt R wr o) (r : Int) : vm_register true r o = some (decide (r ∈ wr)) := by
  unfold vm_register
  have hl := h.len
  simp only [Bool.not_true, cond_false, Bool.cond_decide]
  by_cases c1 : 0 ≤ r
  · by_cases c2 : r < (o.length : Int)
    · rw [if_pos c1, if_pos c2, if_pos c1, if_pos (by omega)]
      have := h.at_ r.toNat (by omega)
      rw [Int.toNat_of_nonneg c1] at this
      congr 1
      by_cases q : r ∈ wr
      · rw [decide_eq_true q]; exact this.2 q
      · rw [decide_eq_false q, ← Bool.not_eq_true]; exact fun w => q (this.1 w)
    · rw [if_pos c1, if_neg c2, decide_eq_false (fun q => by have := h.in_ r q; omega)]
  · rw [if_neg c1, decide_eq_false (fun q => by have := h.in_ r q; omega)]
theorem vm_register_f (r : Int) (o : List Bool) : vm_register false r o = some (decide (r = 0)) := by
  unfold vm_register
  simp only [Bool.not_false, cond_true]
  rfl
theorem prod_in {c : Code} (h : headB c = true) : inK .i64 (c.Rows * c.Cols) = true := by
  unfold headB at h
  rw [decide_eq_true_eq] at h
  have h1 : c.Rows * c.Cols ≤ 40 * 40 := Int.mul_le_mul (by omega) (by omega) (by omega) (by decide)
  have h2 : 0 ≤ c.Rows * c.Cols := Int.mul_nonneg (by omega) (by omega)
  exact inK_i64 (by omega) (by omega)
theorem shape_none {n : Int} (h : n < 0 ∨ 10 < n) : vm_shapeOf n = some (S_a_b_power.mk false false false, false) := by
  unfold vm_shapeOf
  have h0 : (n == 0) = false := by rw [beq_eq_false_iff_ne]; omega
  have h1 : (n == 1) = false := by rw [beq_eq_false_iff_ne]; omega
  have h2 : (n == 2) = false := by rw [beq_eq_false_iff_ne]; omega
  have h3 : (n == 3) = false := by rw [beq_eq_false_iff_ne]; omega
  have h4 : (n == 4) = false := by rw [beq_eq_false_iff_ne]; omega
  have h5 : (n == 5) = false := by rw [beq_eq_false_iff_ne]; omega
  have h6 : (n == 6) = false := by rw [beq_eq_false_iff_ne]; omega
  have h7 : (n == 7) = false := by rw [beq_eq_false_iff_ne]; omega
  have h8 : (n == 8) = false := by rw [beq_eq_false_iff_ne]; omega
  have h9 : (n == 9) = false := by rw [beq_eq_false_iff_ne]; omega
  have h10 : (n == 10) = false := by rw [beq_eq_false_iff_ne]; omega
  rw [h0, h1, h2, h3, h4, h5, h6, h7, h8, h9, h10]
  rfl
theorem vm_instr_eq {c : Code} (hc : headB c = true) {x : Instr} (hx : okL 64 x.Num) {wr : List Int} {o : List Bool} (h : Wrt c.Regs wr o) : vm_instr c x o = some (insB c wr x) := by
  have hp := prod_in hc
  unfold vm_instr insB
  rw [vm_number_eq hx]
  generalize numB x = nb
  unfold aB bB tB opk
  have r0 := vm_register_f x.A_ o
  have r1 := vm_register_f x.B_ o
  have r2 := vm_register_t h x.A_
  have r3 := vm_register_t h x.B_
  rcases op_of x.Op with e | e | e | e | e | e | e | e | e | e | e | e | e
  case inr.inr.inr.inr.inr.inr.inr.inr.inr.inr.inr.inl =>
    rw [shape_none (.inl e), decide_eq_false (show ¬ 0 ≤ x.Op by omega)]
    rfl
  case inr.inr.inr.inr.inr.inr.inr.inr.inr.inr.inr.inr =>
    rw [shape_none (.inr e), decide_eq_false (show ¬ x.Op ≤ 10 by omega), Bool.and_false]
    rfl
  all_goals
    rw [e]
    cases nb
    · simp [vm_shapeOf]
    · simp [vm_shapeOf, vm_instr_j, vm_instr_j_2, vm_instr_j_3, r0, r1, r2, r3, hp, Bool.cond_decide]
      (repeat' split) <;> (try simp_all) <;> (try (intros; omega)) <;> (simp only [Bool.cond_decide]; (repeat' split) <;> simp_all) <;> (try (intros; omega))
theorem Wrt.next {R : Int} {wr : List Int} {o : List Bool} (h : Wrt R wr o) {r : Int} (h0 : 0 ≤ r) (h1 : r < R) : Wrt R (wr ++ [r]) (o.set r.toNat true) := by
  refine ⟨by rw [List.length_set]; exact h.len, h.b, fun k hk => ?_, fun q hq => ?_⟩
  · rw [List.length_set] at hk
    have := h.at_ k hk
    have hn : nth (o.set r.toNat true) k = if r.toNat = k then true else nth o k := by
      simp only [nth, List.getD_eq_getElem?_getD, List.getElem?_set]
      by_cases c : r.toNat = k
      · rw [if_pos c, if_pos c, if_pos (by omega)]; rfl
      · rw [if_neg c, if_neg c]
    rw [hn, List.mem_append, List.mem_singleton]
    by_cases c : r.toNat = k
    · rw [if_pos c]
      exact ⟨fun _ => .inr (by omega), fun _ => rfl⟩
    · rw [if_neg c, this]
      exact ⟨.inl, fun q => q.resolve_right (by omega)⟩
  · rcases List.mem_append.1 hq with q' | q'
    · exact h.in_ q q'
    · rw [List.mem_singleton] at q'; subst q'; exact ⟨h0, h1⟩
theorem insB_to {c : Code} {wr : List Int} {x : Instr} (h : insB c wr x = true) : 0 ≤ x.Op ∧ x.Op ≤ 10 ∧ numB x = true ∧ aB c.Ins wr x = true ∧ bB wr x = true ∧ 0 ≤ x.To ∧ x.To < if x.Op = 10 then c.Rows * c.Cols else c.Regs := by
  unfold insB tB at h
  simp only [Bool.and_eq_true, decide_eq_true_eq] at h
  exact ⟨h.1.1.1.1.1, h.1.1.1.1.2, h.1.1.1.2, h.1.1.2, h.1.2, h.2.1, h.2.2⟩
theorem rightF_drop {c : Code} {wr : List Int} {i : Nat} (hi : i < c.All.length) : rightF c wr (c.All.drop i) = (insB c wr (nth c.All i) && rightF c (nextW wr (nth c.All i)) (c.All.drop (i + 1))) := by
  rw [List.drop_eq_getElem_cons hi, rightF, nth_get hi]
theorem vm_Right_l_eq {c : Code} (hc : headB c = true) (hx : ∀ x, x ∈ c.All → okL 64 x.Num) : ∀ (k i : Nat) (wr : List Int) (o : List Bool) (n : Nat), i + k = c.All.length → Wrt c.Regs wr o → k < n →
    loopN (fun (σ : Nat × List Bool) => vm_Right_l_rd c σ.1 σ.2) n (i, o) = some (if rightF c wr (c.All.drop i) = true then .inr () else .inl ())
  | k, i, wr, o, 0, _, _, h => by omega
  | 0, i, wr, o, n + 1, hi, h, _ => by
    rw [loopN_at (y := .inr (.inr ())) (by
      simp only [vm_Right_l_rd, Bool.cond_decide]
      rw [if_neg (by omega)])]
    rw [List.drop_eq_nil_of_le (by omega)]
    rfl
  | k + 1, i, wr, o, n + 1, hi, h, hk => by
    have hil : i < c.All.length := by omega
    have hcl : c.All.length ≤ 100000 := by unfold headB at hc; rw [decide_eq_true_eq] at hc; exact hc.2.2.2.2.2.2.2
    have hins := vm_instr_eq hc (hx _ (nth_mem hil)) h
    rw [rightF_drop hil]
    cases hb : insB c wr (nth c.All i) with
    | false =>
      rw [hb] at hins
      rw [loopN_at (y := .inr (.inl ())) (by
        simp only [vm_Right_l_rd, Bool.cond_decide, hins, Option.bind_some, Bool.not_false, cond_true]
        rw [if_pos (by omega), if_pos hil])]
      rfl
    | true =>
      rw [hb] at hins
      obtain ⟨_, _, _, _, _, t1, t2⟩ := insB_to hb
      by_cases e : (nth c.All i).Op = 10
      · have e' : ((nth c.All i).Op != 10) = false := by rw [e]; rfl
        rw [loopN_at (y := .inl (i + 1, o)) (by
          simp only [vm_Right_l_rd, Bool.cond_decide, hins, Option.bind_some, Bool.not_true, cond_false, e', inK_i64 (show -9223372036854775808 ≤ (i : Int) + 1 by omega) (by omega), cond_true]
          rw [if_pos (by omega), if_pos hil])]
        show loopN _ n (i + 1, o) = _
        rw [vm_Right_l_eq hc hx k (i + 1) wr o n (by omega) h (by omega)]
        unfold nextW
        rw [if_pos e, Bool.true_and]
      · have e' : ((nth c.All i).Op != 10) = true := by rw [bne_iff_ne]; exact e
        rw [if_neg e] at t2
        have hl := h.len
        rw [loopN_at (y := .inl (i + 1, o.set (nth c.All i).To.toNat true)) (by
          simp only [vm_Right_l_rd, Bool.cond_decide, hins, Option.bind_some, Bool.not_true, cond_false, e', inK_i64 (show -9223372036854775808 ≤ (i : Int) + 1 by omega) (by omega), cond_true]
          rw [if_pos (by omega), if_pos hil, if_pos t1, if_pos (by omega), if_pos (by omega)])]
        show loopN _ n (i + 1, o.set (nth c.All i).To.toNat true) = _
        rw [vm_Right_l_eq hc hx k (i + 1) _ _ n (by omega) (h.next t1 t2) (by omega)]
        unfold nextW
        rw [if_neg e, Bool.true_and]
theorem vm_Right_eq {c : Code} (hx : ∀ x, x ∈ c.All → okL 64 x.Num) : vm_Right c = some (rightB c) := by
  unfold vm_Right rightB
  cases hc : headB c with
  | false =>
    have hc' := hc
    unfold headB at hc'
    rw [decide_eq_false_iff_not] at hc'
    rw [Bool.false_and]
    simp only [Bool.cond_decide]
    by_cases a1 : c.Ins < 1
    · rw [if_pos a1]
    by_cases a2 : c.Ins > 40
    · rw [if_neg a1, if_pos a2]
    by_cases a3 : c.Rows < 1
    · rw [if_neg a1, if_neg a2, if_pos a3]
    by_cases a4 : c.Rows > 40
    · rw [if_neg a1, if_neg a2, if_neg a3, if_pos a4]
    by_cases a5 : c.Cols = c.Ins
    · have a5' : (c.Cols != c.Ins) = false := by rw [a5]; exact bne_self_eq_false _
      by_cases a6 : c.Regs < 0
      · rw [if_neg a1, if_neg a2, if_neg a3, if_neg a4, a5', cond_false, if_pos a6]
      by_cases a7 : c.Regs > 100000
      · rw [if_neg a1, if_neg a2, if_neg a3, if_neg a4, a5', cond_false, if_neg a6, if_pos a7]
      by_cases a8 : ((c.All.length : Nat) : Int) > 100000
      · rw [if_neg a1, if_neg a2, if_neg a3, if_neg a4, a5', cond_false, if_neg a6, if_neg a7, if_pos a8]
      · exact absurd ⟨by omega, by omega, by omega, by omega, a5, by omega, by omega, by omega⟩ hc'
    · have a5' : (c.Cols != c.Ins) = true := by rw [bne_iff_ne]; exact a5
      rw [if_neg a1, if_neg a2, if_neg a3, if_neg a4, a5', cond_true]
  | true =>
    have hc' := hc
    unfold headB at hc'
    rw [decide_eq_true_eq] at hc'
    obtain ⟨a1, a2, a3, a4, a5, a6, a7, a8⟩ := hc'
    have a5' : (c.Cols != c.Ins) = false := by rw [a5]; exact bne_self_eq_false _
    simp only [Bool.cond_decide]
    rw [if_neg (by omega), if_neg (by omega), if_neg (by omega), if_neg (by omega), a5', cond_false, if_neg (by omega), if_neg (by omega), if_neg (by omega), if_pos a6, if_pos (by omega)]
    unfold vm_Right_l
    rw [vm_Right_l_eq hc hx c.All.length 0 [] (List.replicate c.Regs.toNat false) FU (by omega) ⟨by rw [List.length_replicate]; omega, a7, fun r hr => by
        rw [List.length_replicate] at hr
        have : nth (List.replicate c.Regs.toNat false) r = false := by simp [nth, List.getD_eq_getElem?_getD, List.getElem?_replicate, hr]
        rw [this]; simp, fun r hr => by cases hr⟩ (by rw [FU_eq]; omega), List.drop_zero, Bool.true_and]
    cases rightF c [] c.All <;> rfl
end Go.Ab.M
end

section
/-
  PLAIN LAW: RIGHT CODES by the document.
-/
namespace Go.Ab.M
open Go.Proofs Go.Ab
set_option linter.unusedVariables false
set_option linter.unusedSimpArgs false

end Go.Ab.M
end

section
/-
  PLAIN LAW: VALUES, WHAT IS READ OF THEM, AND HOW LONG THEY LIVE.
-/
namespace Go.Ab.M
open Go.Proofs Go.Ab
set_option linter.unusedVariables false
set_option linter.unusedSimpArgs false

/-- which instruction wrote a register last, ahead of another one -/
def Wl (l : List Instr) (r : Int) : Nat → Int
  | 0 => -1
  | i + 1 => if (nth l i).Op ≠ 10 ∧ (nth l i).To = r then (i : Int) else Wl l r i
/-- the values that an instruction reads -/
def rv (l : List Instr) (i : Nat) : List Int := (rgs (nth l i)).map fun r => Wl l r i
/-- the registers that were written -/
def wrOf (l : List Instr) : Nat → List Int
  | 0 => []
  | i + 1 => nextW (wrOf l i) (nth l i)

theorem Wl_bd (l : List Instr) (r : Int) : ∀ i, -1 ≤ Wl l r i ∧ Wl l r i < (i : Int)
  | 0 => ⟨Int.le_refl _, by unfold Wl; omega⟩
  | i + 1 => by
    have := Wl_bd l r i
    unfold Wl
    split <;> omega
theorem Wl_of {l : List Instr} {r : Int} : ∀ {i v : Nat}, Wl l r i = (v : Int) → v < i ∧ (nth l v).Op ≠ 10 ∧ (nth l v).To = r
  | 0, v, h => by unfold Wl at h; omega
  | i + 1, v, h => by
    unfold Wl at h
    split at h
    · rename_i c
      have : v = i := by omega
      subst this
      exact ⟨by omega, c⟩
    · obtain ⟨a, b⟩ := Wl_of h
      exact ⟨by omega, b⟩
theorem Wl_congr {l m : List Instr} {r : Int} : ∀ {i : Nat}, (∀ j, j < i → nth l j = nth m j) → Wl l r i = Wl m r i
  | 0, _ => rfl
  | i + 1, h => by
    unfold Wl
    rw [h i (by omega), Wl_congr fun j hj => h j (by omega)]
theorem mem_wrOf {l : List Instr} {r : Int} : ∀ {i : Nat}, r ∈ wrOf l i ↔ 0 ≤ Wl l r i
  | 0 => by unfold wrOf Wl; simp
  | i + 1 => by
    have ih := mem_wrOf (l := l) (r := r) (i := i)
    unfold wrOf nextW Wl
    by_cases c : (nth l i).Op = 10
    · rw [if_pos c, if_neg (fun q => q.1 c)]; exact ih
    · rw [if_neg c, List.mem_append, List.mem_singleton]
      by_cases d : (nth l i).To = r
      · rw [if_pos ⟨c, d⟩]
        exact ⟨fun _ => by omega, fun _ => .inr d.symm⟩
      · rw [if_neg (fun q => d q.2), ← ih]
        exact ⟨fun q => q.resolve_right fun e => d e.symm, .inl⟩
theorem rightF_all {c : Code} : ∀ (k i : Nat), i + k = c.All.length → (rightF c (wrOf c.All i) (c.All.drop i) = true ↔ ∀ j, i ≤ j → j < c.All.length → insB c (wrOf c.All j) (nth c.All j) = true)
  | 0, i, h => by
    rw [List.drop_eq_nil_of_le (by omega)]
    exact ⟨fun _ j h1 h2 => by omega, fun _ => rfl⟩
  | k + 1, i, h => by
    rw [rightF_drop (by omega), Bool.and_eq_true]
    have ih := rightF_all (c := c) k (i + 1) (by omega)
    rw [show nextW (wrOf c.All i) (nth c.All i) = wrOf c.All (i + 1) from rfl, ih]
    refine ⟨fun q j h1 h2 => ?_, fun q => ⟨q i (Nat.le_refl _) (by omega), fun j h1 h2 => q j (by omega) h2⟩⟩
    rcases Nat.lt_or_ge i j with g | g
    · exact q.2 j (by omega) h2
    · have : j = i := by omega
      subst this
      exact q.1
/-- what is so of a right code -/
structure RC (c : Code) : Prop where
  hd : headB c = true
  ins : ∀ j, j < c.All.length → insB c (wrOf c.All j) (nth c.All j) = true
theorem rightB_iff {c : Code} : rightB c = true ↔ RC c := by
  unfold rightB
  rw [Bool.and_eq_true]
  have := rightF_all (c := c) c.All.length 0 (by omega)
  rw [List.drop_zero] at this
  rw [show rightF c [] c.All = rightF c (wrOf c.All 0) c.All from rfl, this]
  exact ⟨fun h => ⟨h.1, fun j hj => h.2 j (Nat.zero_le _) hj⟩, fun h => ⟨h.hd, fun j _ hj => h.ins j hj⟩⟩
theorem RC.len {c : Code} (h : RC c) : c.All.length ≤ 100000 := by have := h.hd; unfold headB at this; rw [decide_eq_true_eq] at this; exact this.2.2.2.2.2.2.2
theorem rgs_mem {x : Instr} {r : Int} : r ∈ rgs x ↔ (1 ≤ opk x.Op ∧ r = x.A_) ∨ (opk x.Op = 2 ∧ r = x.B_) := by
  unfold rgs
  have : opk x.Op ≤ 2 := by unfold opk; split <;> (try split) <;> omega
  split
  · rename_i h; rw [h]; simp
  · split
    · rename_i h; rw [h]; simp
    · simp; omega
theorem RC.read {c : Code} (h : RC c) {i : Nat} (hi : i < c.All.length) {r : Int} (hr : r ∈ rgs (nth c.All i)) : 0 ≤ Wl c.All r i := by
  obtain ⟨h1, h2, h3, h4, h5, _⟩ := insB_to (h.ins i hi)
  rw [← mem_wrOf]
  rcases rgs_mem.1 hr with ⟨k, rfl⟩ | ⟨k, rfl⟩
  · unfold aB at h4
    unfold opk at k
    rw [if_neg (fun e => by rw [e] at k; simp at k), if_neg (fun e => by rw [e] at k; simp at k), decide_eq_true_eq] at h4
    exact h4
  · unfold bB at h5
    rw [if_pos k, decide_eq_true_eq] at h5
    exact h5

/-! ### who reads a value last -/
def La (l : List Instr) : Nat → Nat → Int
  | 0, _ => 0
  | i + 1, v => if v = i ∨ (v : Int) ∈ rv l i then (i : Int) else La l i v
theorem La_gt {l : List Instr} {n v : Nat} (hv : v ≤ n) : ∀ N, (n : Int) < La l N v ↔ ∃ m, n < m ∧ m < N ∧ (v : Int) ∈ rv l m
  | 0 => by unfold La; exact ⟨fun h => by omega, fun ⟨m, _, h, _⟩ => by omega⟩
  | N + 1 => by
    have ih := La_gt (l := l) hv N
    unfold La
    by_cases c : v = N ∨ (v : Int) ∈ rv l N
    · rw [if_pos c]
      constructor
      · intro h
        refine ⟨N, by omega, by omega, c.resolve_left (by omega)⟩
      · rintro ⟨m, h1, h2, h3⟩; omega
    · rw [if_neg c, ih]
      constructor
      · rintro ⟨m, h1, h2, h3⟩; exact ⟨m, h1, by omega, h3⟩
      · rintro ⟨m, h1, h2, h3⟩
        refine ⟨m, h1, ?_, h3⟩
        rcases Nat.lt_or_ge m N with g | g
        · exact g
        · have : m = N := by omega
          subst this
          exact absurd (.inr h3) c

/-! ### the program's lasts -/
theorem mgetW (z v : Int) : ∀ (m : List (Int × Int)) (k k' : Int), mget (mput m k v) k' z = if k = k' then v else mget m k' z
  | [], k, k' => by simp only [mput, mget]
  | x :: m, k, k' => by
    have ih := mgetW z v m k k'
    simp only [mput]
    by_cases h : x.1 = k
    · rw [if_pos h]
      simp only [mget]
      by_cases c : k = k'
      · rw [if_pos c, if_pos c]
      · rw [if_neg c, if_neg c, if_neg (by rw [h]; exact c)]
    · rw [if_neg h]
      simp only [mget]
      by_cases c : x.1 = k'
      · rw [if_pos c, if_pos c, if_neg (by rw [← c]; exact fun e => h e.symm)]
      · rw [if_neg c, if_neg c, ih]
theorem nth_setI {l : List Int} {i : Nat} {x : Int} {j : Nat} (hi : i < l.length) : nth (l.set i x) j = if j = i then x else nth l j := by
  simp only [nth, List.getD_eq_getElem?_getD, List.getElem?_set]
  by_cases c : i = j
  · subst c; rw [if_pos rfl, if_pos rfl, if_pos hi]; rfl
  · rw [if_neg c, if_neg (Ne.symm c)]
theorem reads_eq {x : Instr} (h0 : 0 ≤ x.Op) (h1 : x.Op ≤ 10) : regs_reads x = some (rgs x) := by
  unfold regs_reads rgs opk
  rcases op_of x.Op with e | e | e | e | e | e | e | e | e | e | e | e | e
  case inr.inr.inr.inr.inr.inr.inr.inr.inr.inr.inr.inl => omega
  case inr.inr.inr.inr.inr.inr.inr.inr.inr.inr.inr.inr => omega
  all_goals rw [e]; rfl
theorem lasts_in {c : Code} {i : Nat} {wm : List (Int × Int)} (ws : List Int) (hw : ∀ r, r ∈ ws → 0 ≤ mget wm r 0) (hl : ws.length ≤ 1000) : ∀ (out : List Int), (∀ r, r ∈ ws → (mget wm r 0).toNat < out.length) →
    ∃ o, regs_lasts_l_2 c i wm ws 0 out = some o ∧ o.length = out.length ∧ ∀ v, nth o v = if (v : Int) ∈ ws.map (fun r => mget wm r 0) then (i : Int) else nth out v := by
  intro out ho
  let step := fun (o : List Int) (r : Int) => o.set (mget wm r 0).toNat (i : Int)
  have len : ∀ (xs : List Int) (o : List Int), (xs.foldl step o).length = o.length := fun xs => by
    induction xs with
    | nil => exact fun _ => rfl
    | cons a t ih => exact fun o => by rw [List.foldl_cons, ih]; exact List.length_set
  refine ⟨ws.foldl step out, ?_, len _ _, fun v => ?_⟩
  · have := loop_run (round := fun σ : Nat × List Int => regs_lasts_l_2_rd c i wm ws σ.1 σ.2) (fun k => (k, (ws.take k).foldl step out)) ws.length (r := ws.foldl step out) (fun k hk => by
      have hm := nth_mem hk
      have h1 := hw _ hm
      have h2 := ho _ hm
      simp only [regs_lasts_l_2_rd, Bool.cond_decide, inK_i64 (show -9223372036854775808 ≤ (k : Int) + 1 by omega) (by omega), cond_true]
      rw [if_pos (by omega), if_pos hk, if_pos h1, if_pos (by rw [len]; exact h2), if_pos (by rw [len]; exact h2), take_nth hk, List.foldl_append]
      rfl) (by
      simp only [regs_lasts_l_2_rd, Bool.cond_decide]
      rw [if_neg (by omega), List.take_length]) (by simp only [FU]; omega)
    exact this
  · clear hl
    induction ws generalizing out with
    | nil => simp
    | cons a t ih =>
      rw [List.foldl_cons]
      have h1 := ho a List.mem_cons_self
      have h0 := hw a List.mem_cons_self
      rw [ih (fun r hr => hw r (List.mem_cons_of_mem _ hr)) (step out a) (fun r hr => by
        show _ < (out.set _ _).length
        rw [List.length_set]; exact ho r (List.mem_cons_of_mem _ hr)), List.map_cons]
      by_cases c : (v : Int) ∈ t.map fun r => mget wm r 0
      · rw [if_pos c, if_pos (List.mem_cons_of_mem _ c)]
      · rw [if_neg c]
        show nth (out.set _ _) v = _
        rw [nth_setI h1]
        by_cases d : v = (mget wm a 0).toNat
        · rw [if_pos d, if_pos (List.mem_cons.2 (.inl (by omega)))]
        · rw [if_neg d, if_neg (fun q => by
            rcases List.mem_cons.1 q with q | q
            · omega
            · exact c q)]
/-- what the map of writers is -/
def WM (l : List Instr) (i : Nat) (m : List (Int × Int)) : Prop := ∀ r, 0 ≤ Wl l r i → mget m r 0 = Wl l r i
theorem WM.next {l : List Instr} {i : Nat} {m : List (Int × Int)} (h : WM l i m) : WM l (i + 1) (if (nth l i).Op = 10 then m else mput m (nth l i).To (i : Int)) := fun r hr => by
  unfold Wl at hr ⊢
  by_cases c : (nth l i).Op = 10
  · rw [if_pos c]
    rw [if_neg (fun q => q.1 c)] at hr ⊢
    exact h r hr
  · rw [if_neg c, mgetW]
    by_cases d : (nth l i).To = r
    · rw [if_pos d, if_pos ⟨c, d⟩]
    · rw [if_neg d]
      rw [if_neg (fun q => d q.2)] at hr ⊢
      exact h r hr
theorem regs_lasts_eq {c : Code} (h : RC c) : ∃ o, regs_lasts c = some o ∧ o.length = c.All.length ∧ ∀ v, v < c.All.length → nth o v = La c.All c.All.length v := by
  have hN := h.len
  have hz : ∀ N v, nth (List.replicate N (0 : Int)) v = 0 := fun N v => by
    simp only [nth, List.getD_eq_getElem?_getD, List.getElem?_replicate]
    split <;> rfl
  unfold regs_lasts regs_lasts_l
  obtain ⟨o, ho, hq⟩ := loop_inv (round := fun σ : Nat × List Int × (List (Int × Int)) => regs_lasts_l_rd c σ.1 σ.2.1 σ.2.2) (Q := fun o => o.length = c.All.length ∧ ∀ v, v < c.All.length → nth o v = La c.All c.All.length v)
    (fun i σ => σ.1 = i ∧ σ.2.1.length = c.All.length ∧ (∀ v, v < c.All.length → nth σ.2.1 v = La c.All i v) ∧ WM c.All i σ.2.2) c.All.length (0, List.replicate c.All.length 0, [])
    ⟨rfl, List.length_replicate, fun v _ => hz _ v, fun r hr => by unfold Wl at hr; omega⟩
    (fun i σ hi hI => by
      obtain ⟨k, out, wm⟩ := σ
      obtain ⟨rfl, h2, h3, h4⟩ := hI
      simp only at h2 h3 h4 hi ⊢
      obtain ⟨q1, q2, _⟩ := insB_to (h.ins k hi)
      have hrd : ∀ r, r ∈ rgs (nth c.All k) → mget wm r 0 = Wl c.All r k ∧ 0 ≤ Wl c.All r k := fun r hr => ⟨h4 r (h.read hi hr), h.read hi hr⟩
      have hlen : (rgs (nth c.All k)).length ≤ 1000 := by unfold rgs; split <;> (try split) <;> simp
      obtain ⟨o, e1, e2, e3⟩ := lasts_in (c := c) (i := k) (rgs (nth c.All k)) (fun r hr => by rw [(hrd r hr).1]; exact (hrd r hr).2) hlen (out.set k (k : Int)) (fun r hr => by
        have := (Wl_bd c.All r k).2
        rw [(hrd r hr).1, List.length_set, h2]; have := (hrd r hr).2; omega)
      have hmap : (rgs (nth c.All k)).map (fun r => mget wm r 0) = rv c.All k := by
        unfold rv
        exact List.map_congr_left fun r hr => (hrd r hr).1
      have hat : ∀ v, v < c.All.length → nth o v = La c.All (k + 1) v := fun v hv => by
        rw [e3, hmap, nth_setI (by omega)]
        unfold La
        by_cases c1 : (v : Int) ∈ rv c.All k
        · rw [if_pos c1, if_pos (.inr c1)]
        · rw [if_neg c1]
          by_cases c2 : v = k
          · rw [if_pos c2, if_pos (.inl c2)]
          · rw [if_neg c2, if_neg (fun q => q.elim c2 c1)]
            exact h3 v hv
      have hwm := h4.next
      by_cases c1 : (nth c.All k).Op = 10
      · rw [if_pos c1] at hwm
        refine ⟨(k + 1, o, wm), ?_, rfl, by rw [e2, List.length_set]; exact h2, hat, hwm⟩
        have c1' : ((nth c.All k).Op != 10) = false := by rw [c1]; rfl
        simp only [regs_lasts_l_rd, Bool.cond_decide, reads_eq q1 q2, Option.bind_some, e1, c1', cond_false, inK_i64 (show -9223372036854775808 ≤ (k : Int) + 1 by omega) (by omega), cond_true]
        rw [if_pos (by omega), if_pos hi, if_pos (by omega), if_pos (by omega)]
      · rw [if_neg c1] at hwm
        refine ⟨(k + 1, o, mput wm (nth c.All k).To (k : Int)), ?_, rfl, by rw [e2, List.length_set]; exact h2, hat, hwm⟩
        have c1' : ((nth c.All k).Op != 10) = true := by rw [bne_iff_ne]; exact c1
        simp only [regs_lasts_l_rd, Bool.cond_decide, reads_eq q1 q2, Option.bind_some, e1, c1', cond_true, inK_i64 (show -9223372036854775808 ≤ (k : Int) + 1 by omega) (by omega)]
        rw [if_pos (by omega), if_pos hi, if_pos (by omega), if_pos (by omega)])
    (fun σ hI => by
      obtain ⟨k, out, wm⟩ := σ
      obtain ⟨e1, h2, h3, h4⟩ := hI
      simp only at e1 h2 h3 h4
      subst e1
      refine ⟨out, ?_, h2, h3⟩
      simp only [regs_lasts_l_rd, Bool.cond_decide]
      rw [if_neg (by omega)])
    (by simp only [FU]; omega)
  refine ⟨o, ?_, hq⟩
  rw [Bool.cond_decide, if_pos (by omega), ho]
  rfl
end Go.Ab.M
end

section
/-
  PLAIN LAW: HOW MANY VALUES ARE ALIVE AT ONCE, by the document.
-/
namespace Go.Ab.M
open Go.Proofs Go.Ab
set_option linter.unusedVariables false
set_option linter.unusedSimpArgs false

/-- is a value alive behind an instruction? -/
def alvB (l : List Instr) (n v : Nat) : Bool := decide ((nth l v).Op ≠ 10) && (decide (v = n) || (decide (v < n) && decide ((n : Int) < La l l.length v)))
def cntA (l : List Instr) (n : Nat) : Nat := ((List.range (n + 1)).filter (alvB l n)).length
def mxA (l : List Instr) : Nat → Nat
  | 0 => 0
  | n + 1 => max (mxA l n) (cntA l n)
theorem mxA_le (l : List Instr) : ∀ n, mxA l n ≤ n
  | 0 => Nat.le_refl _
  | n + 1 => by
    have h1 := mxA_le l n
    have h2 : cntA l n ≤ n + 1 := by unfold cntA; exact Nat.le_trans (List.length_filter_le _ _) (by rw [List.length_range]; omega)
    unfold mxA
    omega

theorem rv_iff {l : List Instr} {m v : Nat} : (v : Int) ∈ rv l m ↔ (nth l v).To ∈ rgs (nth l m) ∧ Wl l (nth l v).To m = (v : Int) := by
  unfold rv
  rw [List.mem_map]
  constructor
  · rintro ⟨r, h1, h2⟩
    obtain ⟨_, _, e⟩ := Wl_of h2
    rw [e]; exact ⟨h1, h2⟩
  · rintro ⟨h1, h2⟩; exact ⟨_, h1, h2⟩
end Go.Ab.M
end

section
/-
  PLAIN LAW: WHAT THE PROGRAM ASSIGNS.
-/
namespace Go.Ab.M
open Go.Proofs Go.Ab
set_option linter.unusedVariables false
set_option linter.unusedSimpArgs false

abbrev keysR (m : List (Int × Int)) : List Int := m.map (·.1)
theorem mput_new : ∀ (m : List (Int × Int)) (k v : Int), k ∉ keysR m → mput m k v = m ++ [(k, v)]
  | [], k, v, _ => rfl
  | x :: m, k, v, h => by
    have h : k ∉ x.1 :: keysR m := h
    rw [List.mem_cons, not_or] at h
    simp only [mput]
    rw [if_neg (Ne.symm h.1), mput_new m k v h.2]
    rfl
theorem idx_some : ∀ (ks : List Int) (k : Int), (idxK ks k).isSome = decide (k ∈ ks)
  | [], k => by simp [idxK]
  | a :: ks, k => by
    have ih := idx_some ks k
    unfold idxK
    by_cases c : a = k
    · rw [if_pos c, decide_eq_true (List.mem_cons.2 (.inl c.symm))]; rfl
    · rw [if_neg c]
      have e : decide (k ∈ a :: ks) = decide (k ∈ ks) := decide_eq_decide.2 ⟨fun h => (List.mem_cons.1 h).resolve_left (Ne.symm c), List.mem_cons_of_mem _⟩
      rw [e, ← ih]
      cases idxK ks k <;> rfl
theorem mhas_eq (m : List (Int × Int)) (k : Int) : mhas m k = decide (k ∈ keysR m) := idx_some _ _
theorem cast_range_nodup (M : Nat) : ((List.range M).map fun r : Nat => (r : Int)).Nodup :=
  List.Pairwise.map _ (fun a b h c => h (by omega)) List.nodup_range
theorem keys_le {m : List (Int × Int)} {M : Nat} (hn : (keysR m).Nodup) (hb : ∀ k, k ∈ keysR m → 0 ≤ k ∧ k < (M : Int)) : m.length ≤ M := by
  have := hn.length_le_of_subset (l₂ := (List.range M).map fun r : Nat => (r : Int)) fun k hk => by
    have := hb k hk
    exact List.mem_map.2 ⟨k.toNat, List.mem_range.2 (by omega), by omega⟩
  simpa using this
theorem take_l_none {m : List (Int × Int)} {M : Nat} (hM : M ≤ 200000) (v : Int) (hall : ∀ r, r < M → (r : Int) ∈ keysR m) : regs_pool_take_l (M : Int) m v 0 = some (.inr ()) := by
  unfold regs_pool_take_l
  refine loop_run (round := fun σ : Nat => regs_pool_take_l_rd (M : Int) m v σ) (fun i => i) M (fun i hi => ?_) ?_ (by simp only [FU]; omega)
  · have := decide_eq_true (hall i hi)
    simp only [regs_pool_take_l_rd, Bool.cond_decide, mhas_eq, this, Bool.not_true, cond_false, inK_i64 (show -9223372036854775808 ≤ (i : Int) + 1 by omega) (by omega), cond_true]
    rw [if_pos (by omega)]
  · simp only [regs_pool_take_l_rd, Bool.cond_decide]
    rw [if_neg (by omega)]
theorem take_l_some {m : List (Int × Int)} {M : Nat} (hM : M ≤ 200000) (v : Int) {j : Nat} (hj : j < M) (hjf : (j : Int) ∉ keysR m) (hjb : ∀ r, r < j → (r : Int) ∈ keysR m) : regs_pool_take_l (M : Int) m v 0 = some (.inl (j, mput m (j : Int) v)) := by
  unfold regs_pool_take_l
  refine loop_run (round := fun σ : Nat => regs_pool_take_l_rd (M : Int) m v σ) (fun i => i) j (fun i hi => ?_) ?_ (by simp only [FU]; omega)
  · have := decide_eq_true (hjb i hi)
    simp only [regs_pool_take_l_rd, Bool.cond_decide, mhas_eq, this, Bool.not_true, cond_false, inK_i64 (show -9223372036854775808 ≤ (i : Int) + 1 by omega) (by omega), cond_true]
    rw [if_pos (by omega)]
  · simp only [regs_pool_take_l_rd, Bool.cond_decide, mhas_eq, decide_eq_false hjf, Bool.not_false, cond_true]
    rw [if_pos (by omega)]
theorem sub_back {M : Nat} : (M : Int) + 1 - 1 = (M : Int) := Int.add_sub_cancel _ _
theorem nat_lo {M : Nat} (hM : M ≤ 200000) : -9223372036854775808 ≤ (M : Int) := by omega
theorem nat_hi {M : Nat} (hM : M ≤ 200000) : (M : Int) ≤ 9223372036854775807 := by omega
theorem inK_nat {M : Nat} (hM : M ≤ 200000) : inK .i64 (M : Int) = true := inK_i64 (nat_lo hM) (nat_hi hM)
theorem inK_back {M : Nat} (hM : M ≤ 200000) : inK .i64 ((M : Int) + 1 - 1) = true := (congrArg (inK .i64) sub_back).trans (inK_nat hM)
theorem bind_r {α β γ : Type} {o : Option (α ⊕ β)} {b : β} (h : o = some (.inr b)) (f : α → Option γ) (g : β → Option γ) : (o.bind fun y => caseS y f g) = g b := by rw [h]; rfl
theorem bif2 {γ : Type} {a b : Bool} (ha : a = true) (hb : b = true) (x : Option γ) : (bif a then bif b then x else none else none) = x := by rw [ha, hb]; rfl
theorem take_last {m : List (Int × Int)} {M : Nat} (v : Int) (h : regs_pool_take_l (M : Int) m v 0 = some (.inr ())) (i1 : inK .i64 ((M : Int) + 1) = true) (i2 : inK .i64 ((M : Int) + 1 - 1) = true) :
    regs_pool_take (M : Int) m v = some ((M : Int) + 1 - 1, (M : Int) + 1, mput m (M : Int) v) :=
  (bind_r h _ _).trans (bif2 i1 i2 _)
theorem take_tidy {M : Nat} {v : Int} {m : List (Int × Int)} (hnot : mput m (M : Int) v = m ++ [((M : Int), v)]) : (some ((M : Int) + 1 - 1, (M : Int) + 1, mput m (M : Int) v)) = some ((M : Int), ((M + 1 : Nat) : Int), m ++ [((M : Int), v)]) := by
  have e1 : (M : Int) + 1 - 1 = (M : Int) := by omega
  have e2 : (M : Int) + 1 = ((M + 1 : Nat) : Int) := by omega
  rw [hnot, e1, e2]
theorem inK_next {M : Nat} (hM : M ≤ 200000) : inK .i64 ((M : Int) + 1) = true := inK_i64 (by omega) (by omega)
theorem take_none {m : List (Int × Int)} {M : Nat} (hM : M ≤ 200000) (v : Int) (hall : ∀ r, r < M → (r : Int) ∈ keysR m) (hnot : (M : Int) ∉ keysR m) : regs_pool_take (M : Int) m v = some ((M : Int), ((M + 1 : Nat) : Int), m ++ [((M : Int), v)]) :=
  (take_last v (take_l_none hM v hall) (inK_next hM) (inK_back hM)).trans (take_tidy (mput_new m _ v hnot))
theorem take_some {m : List (Int × Int)} {M : Nat} (hM : M ≤ 200000) (v : Int) {j : Nat} (hj : j < M) (hjf : (j : Int) ∉ keysR m) (hjb : ∀ r, r < j → (r : Int) ∈ keysR m) : regs_pool_take (M : Int) m v = some ((j : Int), (M : Int), m ++ [((j : Int), v)]) := by
  unfold regs_pool_take
  rw [take_l_some hM v hj hjf hjb, Option.bind_some]
  show some ((j : Int), (M : Int), mput m (j : Int) v) = _
  rw [mput_new m _ v hjf]
theorem take_eq {m : List (Int × Int)} {M : Nat} (hM : M ≤ 200000) (hn : (keysR m).Nodup) (hb : ∀ k, k ∈ keysR m → 0 ≤ k ∧ k < (M : Int)) (v : Int) :
    ∃ q M' : Nat, regs_pool_take (M : Int) m v = some ((q : Int), (M' : Int), m ++ [((q : Int), v)]) ∧ (q : Int) ∉ keysR m ∧ q < M' ∧ M' = max M (m.length + 1) := by
  by_cases hall : (List.range M).all (fun r => decide ((r : Int) ∈ keysR m)) = true
  · rw [List.all_eq_true] at hall
    have hle : M ≤ m.length := by
      have := (cast_range_nodup M).length_le_of_subset (l₂ := keysR m) fun k hk => by
        obtain ⟨r, hr, rfl⟩ := List.mem_map.1 hk
        exact of_decide_eq_true (hall r hr)
      simpa using this
    have hge := keys_le hn hb
    have hnot : ((M : Nat) : Int) ∉ keysR m := fun q => by have := hb _ q; omega
    exact ⟨M, M + 1, take_none hM v (fun r hr => of_decide_eq_true (hall r (List.mem_range.2 hr))) hnot, hnot, by omega, by omega⟩
  · obtain ⟨j, hj, hjf, hjb⟩ := all_find M hall
    rw [decide_eq_false_iff_not] at hjf
    have hle : m.length + 1 ≤ M := by
      have hnd : ((j : Int) :: keysR m).Nodup := List.nodup_cons.2 ⟨hjf, hn⟩
      have := hnd.length_le_of_subset (l₂ := (List.range M).map fun r : Nat => (r : Int)) fun k hk => by
        rcases List.mem_cons.1 hk with rfl | hk
        · exact List.mem_map.2 ⟨j, List.mem_range.2 hj, rfl⟩
        · have := hb k hk
          exact List.mem_map.2 ⟨k.toNat, List.mem_range.2 (by omega), by omega⟩
      simpa using this
    exact ⟨j, M, take_some hM v hj hjf (fun r hr => of_decide_eq_true (hjb r hr)), hjf, hj, by omega⟩
/-- what is so while registers are given -/
structure AS (c : Code) (i : Nat) (has : List (Int × Int)) (M : Nat) (out : List Instr) (names : List (Int × Int)) : Prop where
  keys : (keysR has).Nodup
  kb : ∀ x, x ∈ has → ∃ q v : Nat, x = ((q : Int), (v : Int)) ∧ q < M ∧ v < i ∧ (nth c.All v).Op ≠ 10 ∧ (i : Int) ≤ La c.All c.All.length v ∧ (nth out v).To = (q : Int)
  full : ∀ v : Nat, v < i → (nth c.All v).Op ≠ 10 → (i : Int) ≤ La c.All c.All.length v → ((nth out v).To, (v : Int)) ∈ has
  reg : ∀ x, x ∈ has → Wl out x.1 i = x.2
  m : M = mxA c.All i
  olen : out.length = i
  op : ∀ j, j < i → (nth out j).Op = (nth c.All j).Op ∧ (nth out j).Num = (nth c.All j).Num
  to : ∀ j, j < i → if (nth c.All j).Op = 10 then (nth out j).To = (nth c.All j).To else 0 ≤ (nth out j).To ∧ (nth out j).To < (M : Int)
  ab : ∀ j, j < i → (opk (nth c.All j).Op = 0 → (nth out j).A_ = (nth c.All j).A_) ∧ (opk (nth c.All j).Op < 2 → (nth out j).B_ = (nth c.All j).B_)
  rvs : ∀ j, j < i → rv out j = rv c.All j
  nm : ∀ r, 0 ≤ Wl c.All r i → mget names r 0 = (nth out (Wl c.All r i).toNat).To
theorem AS.kin {c : Code} {i M : Nat} {has names : List (Int × Int)} {out : List Instr} (h : AS c i has M out names) : ∀ k, k ∈ keysR has → 0 ≤ k ∧ k < (M : Int) := fun k hk => by
  obtain ⟨x, hx, rfl⟩ := List.mem_map.1 hk
  obtain ⟨q, v, rfl, h1, _⟩ := h.kb x hx
  exact ⟨by simp, by simp; exact h1⟩
/-- values whose life goes on behind instruction i -/
def liv (c : Code) (i : Nat) (x : Int × Int) : Bool := decide ((i : Int) < La c.All c.All.length x.2.toNat)
theorem release_eq {c : Code} {i : Nat} {lst : List Int} (hl : lst.length = c.All.length) (hv : ∀ v, v < c.All.length → nth lst v = La c.All c.All.length v) {has : List (Int × Int)} (hk : (keysR has).Nodup)
    (hb : ∀ x, x ∈ has → 0 ≤ x.2 ∧ x.2.toNat < c.All.length) (many : Int) : regs_release many has lst (i : Int) = some (has.filter (liv c i)) := by
  unfold regs_release
  have h1 : (has.all fun x => decide (0 ≤ x.2) && decide (x.2.toNat < lst.length)) = true := by
    rw [List.all_eq_true]
    intro x hx
    rw [decide_eq_true (hb x hx).1, decide_eq_true (by rw [hl]; exact (hb x hx).2)]; rfl
  rw [h1, decide_eq_true hk, Bool.true_and, cond_true]
  congr 1
  refine List.filter_congr fun x hx => ?_
  have := hv x.2.toNat (hb x hx).2
  unfold liv
  rw [← this]
  rfl
theorem cntA_eq {c : Code} {i : Nat} (hi : i < c.All.length) {has names : List (Int × Int)} {M : Nat} {out : List Instr} (h : AS c i has M out names) :
    cntA c.All i = (has.filter (liv c i)).length + if (nth c.All i).Op = 10 then 0 else 1 := by
  unfold cntA
  rw [List.range_succ, List.filter_append, List.length_append]
  have e1 : (List.filter (alvB c.All i) [i]).length = if (nth c.All i).Op = 10 then 0 else 1 := by
    have e2 : alvB c.All i i = decide ((nth c.All i).Op ≠ 10) := by
      unfold alvB
      rw [decide_eq_true (rfl : i = i), Bool.true_or, Bool.and_true]
    rw [List.filter_cons, List.filter_nil, e2]
    by_cases c1 : (nth c.All i).Op = 10
    · rw [decide_eq_false (fun q => q c1), if_neg (by decide), if_pos c1]; rfl
    · rw [decide_eq_true c1, if_pos rfl, if_neg c1]; rfl
  rw [e1]
  congr 1
  have hperm : (((List.range i).filter (alvB c.All i)).map fun v : Nat => (v : Int)).Perm ((has.filter (liv c i)).map (·.2)) := by
    refine (List.perm_ext_iff_of_nodup (List.Pairwise.map _ (fun a b h c => h (by omega)) (List.nodup_range.filter _)) ?_).2 fun a => ?_
    · have hp : (has.filter (liv c i)).Pairwise (fun x y => x.1 ≠ y.1) := List.Pairwise.sublist List.filter_sublist (List.pairwise_map.1 h.keys)
      refine List.pairwise_map.2 (hp.imp_of_mem fun {x y} hx hy hne he => hne ?_)
      obtain ⟨q, v, rfl, _, _, _, _, t⟩ := h.kb x (List.mem_filter.1 hx).1
      obtain ⟨q', v', rfl, _, _, _, _, t'⟩ := h.kb y (List.mem_filter.1 hy).1
      simp only at he ⊢
      have : v = v' := by omega
      subst this
      exact t.symm.trans t'
    · rw [List.mem_map, List.mem_map]
      constructor
      · rintro ⟨v, hv, rfl⟩
        rw [List.mem_filter, List.mem_range] at hv
        obtain ⟨h1, h2⟩ := hv
        unfold alvB at h2
        rw [Bool.and_eq_true, decide_eq_true_eq, decide_eq_false (show ¬ v = i by omega), Bool.false_or, decide_eq_true h1, Bool.true_and, decide_eq_true_eq] at h2
        exact ⟨((nth out v).To, (v : Int)), List.mem_filter.2 ⟨h.full v h1 h2.1 (by omega), by unfold liv; rw [decide_eq_true_eq]; simp only [Int.toNat_natCast]; exact h2.2⟩, rfl⟩
      · rintro ⟨x, hx, rfl⟩
        obtain ⟨hx1, hx2⟩ := List.mem_filter.1 hx
        obtain ⟨q, v, rfl, k1, k2, k3, k4, k5⟩ := h.kb x hx1
        unfold liv at hx2
        rw [decide_eq_true_eq] at hx2
        simp only [Int.toNat_natCast] at hx2
        refine ⟨v, List.mem_filter.2 ⟨List.mem_range.2 k2, ?_⟩, rfl⟩
        unfold alvB
        rw [decide_eq_true k3, decide_eq_false (show ¬ v = i by omega), decide_eq_true k2, decide_eq_true hx2]; rfl
  have := hperm.length_eq
  simpa using this
/-- an instruction with other registers -/
def renI (names : List (Int × Int)) (x : Instr) (to : Int) : Instr := ⟨x.Op, to, if 1 ≤ opk x.Op then mget names x.A_ 0 else x.A_, if opk x.Op = 2 then mget names x.B_ 0 else x.B_, x.Num⟩
theorem rgs_ren (names : List (Int × Int)) (x : Instr) (to : Int) : rgs (renI names x to) = (rgs x).map fun r => mget names r 0 := by
  unfold rgs renI
  simp only
  have : opk x.Op ≤ 2 := by unfold opk; split <;> (try split) <;> omega
  by_cases c1 : opk x.Op = 2
  · rw [if_pos c1, if_pos c1, if_pos (by omega), if_pos c1]; rfl
  · rw [if_neg c1, if_neg c1]
    by_cases c2 : opk x.Op = 1
    · rw [if_pos c2, if_pos c2, if_pos (by omega)]; rfl
    · rw [if_neg c2, if_neg c2]; rfl
theorem nth_ap {α : Type} [Inhabited α] {l m : List α} {i : Nat} (h : i < l.length) : nth (l ++ m) i = nth l i := by
  simp only [nth, List.getD_eq_getElem?_getD, List.getElem?_append_left h]
theorem nth_sn {α : Type} [Inhabited α] {l : List α} {x : α} {i : Nat} (h : l.length = i) : nth (l ++ [x]) i = x := by
  subst h
  simp [nth, List.getD_eq_getElem?_getD]
theorem rv_congr {l m : List Instr} {j : Nat} (h : ∀ k, k ≤ j → nth l k = nth m k) : rv l j = rv m j := by
  unfold rv
  rw [h j (Nat.le_refl _)]
  exact List.map_congr_left fun r _ => Wl_congr fun k hk => h k (by omega)
theorem AS.reads {c : Code} (hc : RC c) {i : Nat} (hi : i < c.All.length) {has names : List (Int × Int)} {M : Nat} {out : List Instr} (h : AS c i has M out names) {r : Int} (hr : r ∈ rgs (nth c.All i)) :
    Wl out (mget names r 0) i = Wl c.All r i := by
  have h0 := hc.read hi hr
  obtain ⟨v, hv⟩ : ∃ v : Nat, Wl c.All r i = (v : Int) := ⟨(Wl c.All r i).toNat, by omega⟩
  obtain ⟨k1, k2, k3⟩ := Wl_of hv
  rw [h.nm r h0, hv, Int.toNat_natCast]
  have hla : (i : Int) ≤ La c.All c.All.length v := by
    have := (La_gt (l := c.All) (n := i - 1) (v := v) (by omega) c.All.length).2 ⟨i, by omega, hi, List.mem_map.2 ⟨r, hr, hv⟩⟩
    omega
  exact h.reg _ (h.full v k1 k2 hla)
theorem AS.tell {c : Code} (hc : RC c) {i : Nat} (hi : i < c.All.length) {has names : List (Int × Int)} {M : Nat} {out : List Instr} (h : AS c i has M out names) (ht : (nth c.All i).Op = 10) :
    AS c (i + 1) (has.filter (liv c i)) M (out ++ [renI names (nth c.All i) (nth c.All i).To]) names := by
  have hold : ∀ k, k < i → nth (out ++ [renI names (nth c.All i) (nth c.All i).To]) k = nth out k := fun k hk => nth_ap (by rw [h.olen]; exact hk)
  have hnew : nth (out ++ [renI names (nth c.All i) (nth c.All i).To]) i = renI names (nth c.All i) (nth c.All i).To := nth_sn h.olen
  have hw : ∀ r, Wl (out ++ [renI names (nth c.All i) (nth c.All i).To]) r i = Wl out r i := fun r => Wl_congr hold
  have hw2 : ∀ r, Wl (out ++ [renI names (nth c.All i) (nth c.All i).To]) r (i + 1) = Wl out r i := fun r => by
    rw [Wl, hnew, if_neg (fun q => q.1 ht)]; exact hw r
  have hwc : ∀ r, Wl c.All r (i + 1) = Wl c.All r i := fun r => by
    rw [Wl, if_neg (fun q => q.1 ht)]
  refine ⟨List.Pairwise.sublist (List.Sublist.map _ List.filter_sublist) h.keys, fun x hx => ?_, fun v hv h1 h2 => ?_, fun x hx => ?_, ?_, ?_, fun j hj => ?_, fun j hj => ?_, fun j hj => ?_, fun j hj => ?_, fun r hr => ?_⟩
  · obtain ⟨hx1, hx2⟩ := List.mem_filter.1 hx
    obtain ⟨q, v, rfl, k1, k2, k3, k4, k5⟩ := h.kb x hx1
    unfold liv at hx2
    rw [decide_eq_true_eq] at hx2
    simp only [Int.toNat_natCast] at hx2
    exact ⟨q, v, rfl, k1, by omega, k3, by omega, by rw [hold v k2]; exact k5⟩
  · have hvi : v < i := by
      rcases Nat.lt_or_ge v i with g | g
      · exact g
      · have : v = i := by omega
        subst this
        exact absurd ht h1
    rw [hold v hvi]
    refine List.mem_filter.2 ⟨h.full v hvi h1 (by omega), ?_⟩
    unfold liv
    rw [decide_eq_true_eq]
    simp only [Int.toNat_natCast]
    omega
  · rw [hw2]
    exact h.reg x (List.mem_filter.1 hx).1
  · have h1 := cntA_eq hi h
    rw [if_pos ht] at h1
    have h2 : (has.filter (liv c i)).length ≤ has.length := List.length_filter_le _ _
    have h3 := keys_le h.keys h.kin
    show M = max (mxA c.All i) (cntA c.All i)
    have := h.m
    omega
  · rw [List.length_append, h.olen]; rfl
  · rcases Nat.lt_or_ge j i with g | g
    · rw [hold j g]; exact h.op j g
    · have : j = i := by omega
      subst this
      rw [hnew]; exact ⟨rfl, rfl⟩
  · rcases Nat.lt_or_ge j i with g | g
    · rw [hold j g]; exact h.to j g
    · have : j = i := by omega
      subst this
      rw [hnew, if_pos ht]; rfl
  · rcases Nat.lt_or_ge j i with g | g
    · rw [hold j g]; exact h.ab j g
    · have : j = i := by omega
      subst this
      rw [hnew]
      unfold renI
      exact ⟨fun q => by simp only; rw [if_neg (by omega)], fun q => by simp only; rw [if_neg (by omega)]⟩
  · rcases Nat.lt_or_ge j i with g | g
    · rw [rv_congr (m := out) fun k hk => hold k (by omega)]; exact h.rvs j g
    · have : j = i := by omega
      subst this
      unfold rv
      rw [hnew, rgs_ren, List.map_map]
      exact List.map_congr_left fun r hr => (hw _).trans (h.reads hc hi hr)
  · rw [hwc] at hr ⊢
    rw [h.nm r hr]
    have := (Wl_bd c.All r i).2
    rw [hold _ (by omega)]
theorem AS.write {c : Code} (hc : RC c) {i : Nat} (hi : i < c.All.length) {has names : List (Int × Int)} {M : Nat} {out : List Instr} (h : AS c i has M out names) (ht : (nth c.All i).Op ≠ 10) {q M' : Nat}
    (hq : (q : Int) ∉ keysR (has.filter (liv c i))) (hqM : q < M') (hM' : M' = max M ((has.filter (liv c i)).length + 1)) :
    AS c (i + 1) ((has.filter (liv c i) ++ [((q : Int), (i : Int))]).filter (liv c i)) M' (out ++ [renI names (nth c.All i) (q : Int)]) (mput names (nth c.All i).To (q : Int)) := by
  have hold : ∀ k, k < i → nth (out ++ [renI names (nth c.All i) (q : Int)]) k = nth out k := fun k hk => nth_ap (by rw [h.olen]; exact hk)
  have hnew : nth (out ++ [renI names (nth c.All i) (q : Int)]) i = renI names (nth c.All i) (q : Int) := nth_sn h.olen
  have hw : ∀ r, Wl (out ++ [renI names (nth c.All i) (q : Int)]) r i = Wl out r i := fun r => Wl_congr hold
  have hw2 : ∀ r, Wl (out ++ [renI names (nth c.All i) (q : Int)]) r (i + 1) = if (q : Int) = r then (i : Int) else Wl out r i := fun r => by
    rw [Wl, hnew, hw]
    by_cases e : (q : Int) = r
    · rw [if_pos e, if_pos ⟨ht, e⟩]
    · rw [if_neg e, if_neg (fun w => e w.2)]
  have hwc : ∀ r, Wl c.All r (i + 1) = if (nth c.All i).To = r then (i : Int) else Wl c.All r i := fun r => by
    rw [Wl]
    by_cases e : (nth c.All i).To = r
    · rw [if_pos e, if_pos ⟨ht, e⟩]
    · rw [if_neg e, if_neg (fun w => e w.2)]
  have hmem : ∀ x, x ∈ (has.filter (liv c i) ++ [((q : Int), (i : Int))]).filter (liv c i) → (x ∈ has.filter (liv c i) ∨ x = ((q : Int), (i : Int))) ∧ liv c i x = true := fun x hx => by
    obtain ⟨h1, h2⟩ := List.mem_filter.1 hx
    exact ⟨(List.mem_append.1 h1).imp id fun e => List.mem_singleton.1 e, h2⟩
  refine ⟨List.Pairwise.sublist (List.Sublist.map _ List.filter_sublist) ?_, fun x hx => ?_, fun v hv h1 h2 => ?_, fun x hx => ?_, ?_, ?_, fun j hj => ?_, fun j hj => ?_, fun j hj => ?_, fun j hj => ?_, fun r hr => ?_⟩
  · rw [List.map_append, List.pairwise_append]
    refine ⟨List.Pairwise.sublist (List.Sublist.map _ List.filter_sublist) h.keys, List.pairwise_singleton _ _, fun a ha b hb => ?_⟩
    rw [List.map_cons, List.map_nil, List.mem_singleton] at hb
    subst hb
    exact fun e => hq (by have e' : a = (q : Int) := e; rw [← e']; exact ha)
  · obtain ⟨hx1, hx2⟩ := hmem x hx
    rcases hx1 with hx1 | rfl
    · obtain ⟨q', v, rfl, k1, k2, k3, k4, k5⟩ := h.kb x (List.mem_filter.1 hx1).1
      unfold liv at hx2
      rw [decide_eq_true_eq] at hx2
      simp only [Int.toNat_natCast] at hx2
      exact ⟨q', v, rfl, by omega, by omega, k3, by omega, by rw [hold v k2]; exact k5⟩
    · unfold liv at hx2
      rw [decide_eq_true_eq] at hx2
      simp only [Int.toNat_natCast] at hx2
      exact ⟨q, i, rfl, hqM, by omega, ht, by omega, by rw [hnew]; rfl⟩
  · have hl : liv c i ((nth (out ++ [renI names (nth c.All i) (q : Int)]) v).To, (v : Int)) = true := by
      unfold liv
      rw [decide_eq_true_eq]
      simp only [Int.toNat_natCast]
      omega
    refine List.mem_filter.2 ⟨List.mem_append.2 ?_, hl⟩
    rcases Nat.lt_or_ge v i with g | g
    · rw [hold v g] at hl ⊢
      exact .inl (List.mem_filter.2 ⟨h.full v g h1 (by omega), hl⟩)
    · have : v = i := by omega
      subst this
      rw [hnew]
      exact .inr (List.mem_singleton.2 rfl)
  · obtain ⟨hx1, hx2⟩ := hmem x hx
    rw [hw2]
    rcases hx1 with hx1 | rfl
    · rw [if_neg (fun e => hq (by rw [e]; exact List.mem_map_of_mem hx1))]
      exact h.reg x (List.mem_filter.1 hx1).1
    · rw [if_pos rfl]
  · have h1 := cntA_eq hi h
    rw [if_neg ht] at h1
    show M' = max (mxA c.All i) (cntA c.All i)
    rw [hM', h1, ← h.m]
  · rw [List.length_append, h.olen]; rfl
  · rcases Nat.lt_or_ge j i with g | g
    · rw [hold j g]; exact h.op j g
    · have : j = i := by omega
      subst this
      rw [hnew]; exact ⟨rfl, rfl⟩
  · rcases Nat.lt_or_ge j i with g | g
    · rw [hold j g]
      have := h.to j g
      split at this
      · rename_i e; rw [if_pos e]; exact this
      · rename_i e; rw [if_neg e]; exact ⟨this.1, by omega⟩
    · have : j = i := by omega
      subst this
      rw [hnew, if_neg ht]
      exact ⟨by show (0 : Int) ≤ (q : Int); omega, by show (q : Int) < _; omega⟩
  · rcases Nat.lt_or_ge j i with g | g
    · rw [hold j g]; exact h.ab j g
    · have : j = i := by omega
      subst this
      rw [hnew]
      unfold renI
      exact ⟨fun q => by simp only; rw [if_neg (by omega)], fun q => by simp only; rw [if_neg (by omega)]⟩
  · rcases Nat.lt_or_ge j i with g | g
    · rw [rv_congr (m := out) fun k hk => hold k (by omega)]; exact h.rvs j g
    · have : j = i := by omega
      subst this
      unfold rv
      rw [hnew, rgs_ren, List.map_map]
      exact List.map_congr_left fun r hr => (hw _).trans (h.reads hc hi hr)
  · rw [hwc] at hr ⊢
    rw [mgetW]
    by_cases e : (nth c.All i).To = r
    · rw [if_pos e, if_pos e, Int.toNat_natCast, hnew]; rfl
    · rw [if_neg e] at hr ⊢
      rw [if_neg e]
      rw [h.nm r hr]
      have := (Wl_bd c.All r i).2
      rw [hold _ (by omega)]
end Go.Ab.M
end

section
/-
  PLAIN LAW: WHAT IS ASSIGNED IS RIGHT, AND ALIKE.
-/
namespace Go.Ab.M
open Go.Proofs Go.Ab
set_option linter.unusedVariables false
set_option linter.unusedSimpArgs false

theorem opk_le (op : Int) : opk op ≤ 2 := by unfold opk; split <;> (try split) <;> omega
theorem rgs_len (x : Instr) : (rgs x).length = opk x.Op := by
  have := opk_le x.Op
  unfold rgs
  split
  · rename_i h; rw [h]; rfl
  · split
    · rename_i h; rw [h]; rfl
    · show 0 = _; omega
theorem ren2 {names : List (Int × Int)} {x : Instr} (h : opk x.Op = 2) (to : Int) : Instr.mk x.Op to (mget names x.A_ 0) (mget names x.B_ 0) x.Num = renI names x to := by
  unfold renI; rw [if_pos (by omega), if_pos h]
theorem ren1 {names : List (Int × Int)} {x : Instr} (h : opk x.Op = 1) (to : Int) : Instr.mk x.Op to (mget names x.A_ 0) x.B_ x.Num = renI names x to := by
  unfold renI; rw [if_pos (by omega), if_neg (by omega)]
theorem ren0 {names : List (Int × Int)} {x : Instr} (h : opk x.Op = 0) (to : Int) : Instr.mk x.Op to x.A_ x.B_ x.Num = renI names x to := by
  unfold renI; rw [if_neg (by omega), if_neg (by omega)]
theorem assign_round {c : Code} (hc : RC c) {lst : List Int} (hl : lst.length = c.All.length) (hv : ∀ v, v < c.All.length → nth lst v = La c.All c.All.length v) {i : Nat} (hi : i < c.All.length) {has names : List (Int × Int)} {M : Nat} {out : List Instr}
    (h : AS c i has M out names) : ∃ has' M' out' names', regs_assign_l_rd c lst i has (M : Int) out names = some (.inl (i + 1, has', ((M' : Nat) : Int), out', names')) ∧ AS c (i + 1) has' M' out' names' := by
  have hN := hc.len
  obtain ⟨q1, q2, _⟩ := insB_to (hc.ins i hi)
  have hM : M ≤ 100000 := by have := mxA_le c.All i; have := h.m; omega
  have hrel := release_eq (i := i) hl hv h.keys (fun x hx => by obtain ⟨q, v, rfl, _, k2, _⟩ := h.kb x hx; exact ⟨by simp, by simp; omega⟩) (M : Int)
  have hk1 : (keysR (has.filter (liv c i))).Nodup := List.Pairwise.sublist (List.Sublist.map _ List.filter_sublist) h.keys
  have hol := h.olen
  have g0 : ((i : Nat) : Int) < ((c.All.length : Nat) : Int) := by omega
  have g1 : out.length + 1 ≤ 2147483648 := by omega
  have g2 : inK .i64 ((i : Int) + 1) = true := inK_i64 (by omega) (by omega)
  by_cases ht : (nth c.All i).Op = 10
  · have ht' : ((nth c.All i).Op != 10) = false := by rw [ht]; rfl
    have ho : opk (nth c.All i).Op = 1 := by rw [ht]; rfl
    refine ⟨_, M, _, names, ?_, h.tell hc hi ht⟩
    have e2 : ((((rgs (nth c.All i)).length : Nat) : Int) == 2) = false := by rw [rgs_len, ho]; rfl
    have e1 : ((((rgs (nth c.All i)).length : Nat) : Int) == 1) = true := by rw [rgs_len, ho]; rfl
    unfold regs_assign_l_rd
    rw [reads_eq q1 q2]
    simp only [Bool.cond_decide, Option.bind_some, e2, e1, cond_false, cond_true, hrel, ht', if_pos g0, if_pos hi, if_pos g1, g2, ren1 ho]
  · have ht' : ((nth c.All i).Op != 10) = true := by rw [bne_iff_ne]; exact ht
    obtain ⟨q, M', ht1, ht2, ht3, ht4⟩ := take_eq (show M ≤ 200000 by omega) hk1 (fun k hk => h.kin k (List.Sublist.subset (List.Sublist.map _ List.filter_sublist) hk)) (i : Int)
    have hw := h.write hc hi ht ht2 ht3 ht4
    refine ⟨_, M', _, _, ?_, hw⟩
    have hrel2 := release_eq (i := i) (has := has.filter (liv c i) ++ [((q : Int), (i : Int))]) hl hv (by
      show ((has.filter (liv c i) ++ [((q : Int), (i : Int))]).map (·.1)).Nodup
      rw [List.map_append, List.nodup_append]
      refine ⟨hk1, List.pairwise_singleton _ _, fun a ha b hb => ?_⟩
      rw [List.map_cons, List.map_nil, List.mem_singleton] at hb
      subst hb
      exact fun e => ht2 (by have e' : a = (q : Int) := e; rw [← e']; exact ha)) (fun x hx => by
      rcases List.mem_append.1 hx with hx | hx
      · obtain ⟨q, v, rfl, _, k2, _⟩ := h.kb x (List.mem_filter.1 hx).1; exact ⟨by simp, by simp; omega⟩
      · rw [List.mem_singleton] at hx; subst hx; exact ⟨by simp, by simp; omega⟩) (M' : Int)
    have ho := opk_le (nth c.All i).Op
    unfold regs_assign_l_rd
    rw [reads_eq q1 q2]
    rcases Nat.lt_or_ge (opk (nth c.All i).Op) 1 with o | o
    · have o : opk (nth c.All i).Op = 0 := by omega
      have e2 : ((((rgs (nth c.All i)).length : Nat) : Int) == 2) = false := by rw [rgs_len, o]; rfl
      have e1 : ((((rgs (nth c.All i)).length : Nat) : Int) == 1) = false := by rw [rgs_len, o]; rfl
      simp only [Bool.cond_decide, Option.bind_some, e2, e1, cond_false, cond_true, hrel, hrel2, ht', ht1, if_pos g0, if_pos hi, if_pos g1, g2, ren0 (names := names) o]
    · rcases Nat.lt_or_ge (opk (nth c.All i).Op) 2 with o2 | o2
      · have o : opk (nth c.All i).Op = 1 := by omega
        have e2 : ((((rgs (nth c.All i)).length : Nat) : Int) == 2) = false := by rw [rgs_len, o]; rfl
        have e1 : ((((rgs (nth c.All i)).length : Nat) : Int) == 1) = true := by rw [rgs_len, o]; rfl
        simp only [Bool.cond_decide, Option.bind_some, e2, e1, cond_false, cond_true, hrel, hrel2, ht', ht1, if_pos g0, if_pos hi, if_pos g1, g2, ren1 o]
      · have o : opk (nth c.All i).Op = 2 := by omega
        have e2 : ((((rgs (nth c.All i)).length : Nat) : Int) == 2) = true := by rw [rgs_len, o]; rfl
        simp only [Bool.cond_decide, Option.bind_some, e2, cond_false, cond_true, hrel, hrel2, ht', ht1, if_pos g0, if_pos hi, if_pos g1, g2, ren2 o]
theorem assign_eq {c : Code} (hc : RC c) : ∃ has out names, regs_assign c = some (Code.mk c.Ins c.Rows c.Cols ((mxA c.All c.All.length : Nat) : Int) out) ∧ AS c c.All.length has (mxA c.All c.All.length) out names := by
  have hN := hc.len
  obtain ⟨lst, e1, hl, hv⟩ := regs_lasts_eq hc
  unfold regs_assign regs_assign_l
  obtain ⟨y, hy, has, M, out, names, rfl, hq⟩ := loop_inv (round := fun σ : Nat × (List (Int × Int)) × Int × List Instr × (List (Int × Int)) => regs_assign_l_rd c lst σ.1 σ.2.1 σ.2.2.1 σ.2.2.2.1 σ.2.2.2.2)
    (Q := fun y => ∃ (has : List (Int × Int)) (M : Nat) (out : List Instr) (names : List (Int × Int)), y = (has, (M : Int), out) ∧ AS c c.All.length has M out names)
    (fun i σ => ∃ (has : List (Int × Int)) (M : Nat) (out : List Instr) (names : List (Int × Int)), σ = (i, has, (M : Int), out, names) ∧ AS c i has M out names) c.All.length (0, [], 0, [], [])
    ⟨[], 0, [], [], rfl, ⟨List.Pairwise.nil, fun x hx => (by cases hx), fun v hv => by omega, fun x hx => (by cases hx), rfl, rfl, fun j hj => by omega, fun j hj => by omega, fun j hj => by omega, fun j hj => by omega, fun r hr => by rw [Wl] at hr; omega⟩⟩
    (fun i σ hi hI => by
      obtain ⟨has, M, out, names, rfl, h⟩ := hI
      obtain ⟨has', M', out', names', g1, g2⟩ := assign_round hc hl hv hi h
      exact ⟨_, g1, has', M', out', names', rfl, g2⟩)
    (fun σ hI => by
      obtain ⟨has, M, out, names, rfl, h⟩ := hI
      refine ⟨(has, (M : Int), out), ?_, has, M, out, names, rfl, h⟩
      simp only [regs_assign_l_rd, Bool.cond_decide]
      rw [if_neg (by omega)])
    (by simp only [FU]; omega)
  have hm := hq.m
  subst hm
  refine ⟨has, out, names, ?_, hq⟩
  rw [e1, Option.bind_some, hy]
  rfl
section
variable {c : Code} (hc : RC c) {has names : List (Int × Int)} {out : List Instr} (h : AS c c.All.length has (mxA c.All c.All.length) out names)
include hc h
theorem AS.readable {j : Nat} (hj : j < c.All.length) {r : Int} (hr : r ∈ rgs (nth out j)) : 0 ≤ Wl out r j := by
  have h1 : Wl out r j ∈ rv out j := List.mem_map_of_mem (f := fun r => Wl out r j) hr
  rw [h.rvs j hj] at h1
  obtain ⟨r', hr', e⟩ := List.mem_map.1 h1
  rw [← e]
  exact hc.read hj hr'
/-- what is assigned is right -/
theorem AS.right : RC (Code.mk c.Ins c.Rows c.Cols ((mxA c.All c.All.length : Nat) : Int) out) := by
  have hd := hc.hd
  have hmx := mxA_le c.All c.All.length
  have hol := h.olen
  have hd2 := hd
  unfold headB at hd2
  rw [decide_eq_true_eq] at hd2
  refine ⟨?_, fun j hj => ?_⟩
  · unfold headB
    rw [decide_eq_true_eq]
    simp only
    refine ⟨hd2.1, hd2.2.1, hd2.2.2.1, hd2.2.2.2.1, hd2.2.2.2.2.1, ?_, ?_, ?_⟩ <;> omega
  · have hj : j < c.All.length := by rw [← hol]; exact hj
    show insB _ (wrOf out j) (nth out j) = true
    obtain ⟨i1, i2, i3, i4, i5, i6, i7⟩ := insB_to (hc.ins j hj)
    obtain ⟨o1, o2⟩ := h.op j hj
    have hto := h.to j hj
    obtain ⟨ab1, ab2⟩ := h.ab j hj
    have hread := fun r hr => mem_wrOf.2 (AS.readable hc h hj (r := r) hr)
    unfold insB
    have b1 : (decide (0 ≤ (nth out j).Op) && decide ((nth out j).Op ≤ 10)) = true := by rw [o1, decide_eq_true i1, decide_eq_true i2]; rfl
    have b2 : numB (nth out j) = true := by unfold numB at i3 ⊢; rw [o1, o2]; exact i3
    have b3 : aB c.Ins (wrOf out j) (nth out j) = true := by
      unfold aB at i4 ⊢
      rw [o1]
      by_cases e0 : (nth c.All j).Op = 0
      · rw [if_pos e0] at i4 ⊢
        rw [ab1 (by rw [e0]; rfl)]; exact i4
      · rw [if_neg e0] at i4 ⊢
        by_cases e1 : (nth c.All j).Op = 1
        · rw [if_pos e1] at i4 ⊢
          rw [ab1 (by rw [e1]; rfl)]; exact i4
        · rw [if_neg e1, decide_eq_true_eq]
          refine hread _ (rgs_mem.2 (.inl ⟨?_, rfl⟩))
          rw [o1]
          unfold opk
          split
          · omega
          · rw [if_pos (by omega)]; omega
    have b4 : bB (wrOf out j) (nth out j) = true := by
      unfold bB at i5 ⊢
      rw [o1]
      by_cases e2 : opk (nth c.All j).Op = 2
      · rw [if_pos e2, decide_eq_true_eq]
        exact hread _ (rgs_mem.2 (.inr ⟨by rw [o1]; exact e2, rfl⟩))
      · rw [if_neg e2] at i5 ⊢
        have := opk_le (nth c.All j).Op
        rw [ab2 (by omega)]; exact i5
    have b5 : tB (Code.mk c.Ins c.Rows c.Cols ((mxA c.All c.All.length : Nat) : Int) out) (nth out j) = true := by
      unfold tB
      rw [o1]
      simp only
      by_cases e : (nth c.All j).Op = 10
      · rw [if_pos e] at hto i7 ⊢
        rw [hto, decide_eq_true i6, decide_eq_true i7]; rfl
      · rw [if_neg e] at hto ⊢
        rw [decide_eq_true hto.1, decide_eq_true hto.2]; rfl
    rw [b1, b2, b3, b4, b5]; rfl
theorem AS.nums (hx : ∀ x, x ∈ c.All → okL 64 x.Num) : ∀ x, x ∈ out → okL 64 x.Num := fun x hx' => by
  have _ := hc
  obtain ⟨j, hj, rfl⟩ := List.getElem_of_mem hx'
  rw [h.olen] at hj
  have := (h.op j hj).2
  rw [nth_get (by rw [h.olen]; exact hj)] at this
  rw [this]
  exact hx _ (nth_mem hj)
end
/-- an instruction with values in the place of registers -/
def valI (l : List Instr) (i : Nat) : Instr := ⟨(nth l i).Op, if (nth l i).Op = 10 then (nth l i).To else 0, if 1 ≤ opk (nth l i).Op then Wl l (nth l i).A_ i else (nth l i).A_, if opk (nth l i).Op = 2 then Wl l (nth l i).B_ i else (nth l i).B_, (nth l i).Num⟩
end Go.Ab.M
end

section
/-
  PLAIN LAW: HOW MANY VALUES ARE ALIVE, AND WHAT IS ASSIGNED, is as the document says.
-/
namespace Go.Ab.M
open Go.Proofs Go.Ab
set_option linter.unusedVariables false
set_option linter.unusedSimpArgs false

theorem valI_same {c : Code} (hc : RC c) {has names : List (Int × Int)} {out : List Instr} (h : AS c c.All.length has (mxA c.All c.All.length) out names) {j : Nat} (hj : j < c.All.length) : valI out j = valI c.All j := by
  obtain ⟨o1, o2⟩ := h.op j hj
  have hto := h.to j hj
  obtain ⟨ab1, ab2⟩ := h.ab j hj
  have hrv := h.rvs j hj
  have hle := opk_le (nth c.All j).Op
  unfold valI
  rw [o1, o2]
  have e1 : (if (nth c.All j).Op = 10 then (nth out j).To else 0) = if (nth c.All j).Op = 10 then (nth c.All j).To else 0 := by
    by_cases e : (nth c.All j).Op = 10
    · rw [if_pos e] at hto; rw [if_pos e, if_pos e, hto]
    · rw [if_neg e, if_neg e]
  have e2 : (if 1 ≤ opk (nth c.All j).Op then Wl out (nth out j).A_ j else (nth out j).A_) = if 1 ≤ opk (nth c.All j).Op then Wl c.All (nth c.All j).A_ j else (nth c.All j).A_ := by
    by_cases e : 1 ≤ opk (nth c.All j).Op
    · rw [if_pos e, if_pos e]
      unfold rv rgs at hrv
      rw [o1] at hrv
      by_cases q : opk (nth c.All j).Op = 2
      · rw [if_pos q, if_pos q] at hrv
        simp only [List.map_cons, List.map_nil, List.cons.injEq] at hrv
        exact hrv.1
      · rw [if_neg q, if_neg q, if_pos (by omega), if_pos (by omega)] at hrv
        simp only [List.map_cons, List.map_nil, List.cons.injEq] at hrv
        exact hrv.1
    · rw [if_neg e, if_neg e]; exact ab1 (by omega)
  have e3 : (if opk (nth c.All j).Op = 2 then Wl out (nth out j).B_ j else (nth out j).B_) = if opk (nth c.All j).Op = 2 then Wl c.All (nth c.All j).B_ j else (nth c.All j).B_ := by
    by_cases q : opk (nth c.All j).Op = 2
    · rw [if_pos q, if_pos q]
      unfold rv rgs at hrv
      rw [o1, if_pos q, if_pos q] at hrv
      simp only [List.map_cons, List.map_nil, List.cons.injEq] at hrv
      exact hrv.2.1
    · rw [if_neg q, if_neg q]; exact ab2 (by omega)
  rw [e1, e2, e3]
theorem regs_Assign_t {c : Code} (hx : ∀ x, x ∈ c.All → okL 64 x.Num) (hc : RC c) : ∃ has out names, regs_Assign c = some (Code.mk c.Ins c.Rows c.Cols ((mxA c.All c.All.length : Nat) : Int) out, 0) ∧ AS c c.All.length has (mxA c.All c.All.length) out names := by
  obtain ⟨has, out, names, e, h⟩ := assign_eq hc
  refine ⟨has, out, names, ?_, h⟩
  unfold regs_Assign
  rw [vm_Right_eq hx, Option.bind_some, rightB_iff.2 hc, Bool.not_true, cond_false, e]
  rfl
theorem awake27 : law27_awake = some true := by kernel_rfl
def RatIn (x : Rat) : Prop := True ∧ (x.Num.length ≤ maxLen ∧ ∀ z, z ∈ x.Num → inRange .u32 z) ∧ (x.Den.length ≤ maxLen ∧ ∀ z, z ∈ x.Den → inRange .u32 z)
theorem RatIn.ok {x : Rat} {n : Nat} (h : RatIn x) (k : x.Num.length ≤ n ∧ x.Den.length ≤ n) : okL n x :=
  ⟨fun z hz => ⟨(h.2.1.2 z hz).1, Int.lt_of_le_of_lt (h.2.1.2 z hz).2 (by decide)⟩, fun z hz => ⟨(h.2.2.2 z hz).1, Int.lt_of_le_of_lt (h.2.2.2 z hz).2 (by decide)⟩, k.1, k.2⟩
/-- what is known of a code that is looked at -/
def CodeIn (c : Code) : Prop := inRange .i64 c.Ins ∧ inRange .i64 c.Rows ∧ inRange .i64 c.Cols ∧ inRange .i64 c.Regs ∧ (c.All.length ≤ maxLen ∧ ∀ z, z ∈ c.All → inRange .i64 z.Op ∧ inRange .i64 z.To ∧ inRange .i64 z.A_ ∧ inRange .i64 z.B_ ∧ RatIn z.Num)
def fewC (c : Code) : Prop := c.All.length ≤ 16 ∧ c.Regs ≤ 1000 ∧ ∀ x, x ∈ c.All → x.Num.Num.length ≤ 6 ∧ x.Num.Den.length ≤ 6
theorem CodeIn.ok {c : Code} (h : CodeIn c) (hf : fewC c) : ∀ x, x ∈ c.All → okL 64 x.Num := fun x hx =>
  ((h.2.2.2.2.2 x hx).2.2.2.2.ok (hf.2.2 x hx)).mono (by decide)
end Go.Ab.M
end

section
/-
  PLAIN LAW: CODES OF SMALL NUMBERS ARE RIGHT.
-/
namespace Go.Ab.M
open Go.Proofs Go.Ab
set_option linter.unusedVariables false
set_option linter.unusedSimpArgs false

/-- registers that were written, and weights -/
structure WW (i i1 : List Int) : Prop where
  len : i1.length = i.length
  le : i.length ≤ 100
  b : ∀ k, k < i1.length → 1 ≤ nth i1 k ∧ nth i1 k ≤ 12
theorem noted_eq {i i1 : List Int} (h : WW i i1) (hl : i.length ≤ 99) (r n : Int) (h1 : 1 ≤ n) (h2 : n ≤ 12) :
    ∃ j j1, ref25_noted i i1 r n = some (j, j1) ∧ WW j j1 ∧ j.length ≤ i.length + 1 ∧ 0 < j.length ∧ ∀ q, q ∈ j → q ∈ i ∨ q = r := by
  have hlen := h.len
  by_cases hall : (List.range i.length).all (fun k => decide (nth i k ≠ r)) = true
  · have e : ref25_noted_l i i1 r n 0 = some (.inr ()) := by
      unfold ref25_noted_l
      refine loop_run (round := fun σ : Nat => ref25_noted_l_rd i i1 r n σ) (fun k => k) i.length (fun k hk => ?_) ?_ (by simp only [FU]; omega)
      · rw [List.all_eq_true] at hall
        have := of_decide_eq_true (hall k (List.mem_range.2 hk))
        have e1 : (nth i k == r) = false := beq_eq_false_iff_ne.2 this
        simp only [ref25_noted_l_rd, Bool.cond_decide, e1, cond_false, inK_i64 (show -9223372036854775808 ≤ (k : Int) + 1 by omega) (by omega), cond_true]
        rw [if_pos (by omega), if_pos hk]
      · simp only [ref25_noted_l_rd, Bool.cond_decide]
        rw [if_neg (by omega)]
    refine ⟨i ++ [r], i1 ++ [n], ?_, ⟨by simp [hlen], by simp; omega, fun k hk => ?_⟩, by simp, by simp, fun q hq => ?_⟩
    · unfold ref25_noted
      rw [e, Option.bind_some]
      simp only [caseS, List.nil_append, Bool.cond_decide]
      rw [if_pos (by omega), if_pos (by omega), if_pos (by omega), if_pos (by omega)]
    · rw [List.length_append] at hk
      rcases Nat.lt_or_ge k i1.length with g | g
      · rw [nth_ap g]; exact h.b k g
      · rw [nth_sn (by simp at hk; omega)]; exact ⟨h1, h2⟩
    · rcases List.mem_append.1 hq with q' | q'
      · exact .inl q'
      · exact .inr (List.mem_singleton.1 q')
  · obtain ⟨j, hj, hjf, hjb⟩ := all_find i.length hall
    rw [decide_eq_false_iff_not, ne_eq, Decidable.not_not] at hjf
    have e : ref25_noted_l i i1 r n 0 = some (.inl (i1.set j n)) := by
      unfold ref25_noted_l
      refine loop_run (round := fun σ : Nat => ref25_noted_l_rd i i1 r n σ) (fun k => k) j (fun k hk => ?_) ?_ (by simp only [FU]; omega)
      · have := of_decide_eq_true (hjb k hk)
        have e1 : (nth i k == r) = false := beq_eq_false_iff_ne.2 this
        simp only [ref25_noted_l_rd, Bool.cond_decide, e1, cond_false, inK_i64 (show -9223372036854775808 ≤ (k : Int) + 1 by omega) (by omega), cond_true]
        rw [if_pos (by omega), if_pos (by omega)]
      · have e1 : (nth i j == r) = true := beq_iff_eq.2 hjf
        simp only [ref25_noted_l_rd, Bool.cond_decide, e1, cond_true, List.nil_append]
        rw [if_pos (by omega), if_pos (by omega), if_pos (by omega), if_pos (by omega), if_pos (by omega)]
    refine ⟨i, i1.set j n, ?_, ⟨by rw [List.length_set]; exact hlen, by omega, fun k hk => ?_⟩, by omega, by omega, fun q hq => .inl hq⟩
    · unfold ref25_noted
      rw [e, Option.bind_some]
      rfl
    · rw [List.length_set] at hk
      rw [nth_setI (by omega)]
      by_cases c : k = j
      · rw [if_pos c]; exact ⟨h1, h2⟩
      · rw [if_neg c]; exact h.b k hk
theorem opk_two {op : Int} (h0 : 1 < op) (h1 : op ≤ 10) (h6 : op ≠ 6) (h7 : op ≠ 7) (h10 : op ≠ 10) : opk op = 2 := by
  unfold opk; rw [if_pos (by omega)]
section
variable (a2 : List S_Op_To_A_B) (a3 : Int) {i i1 : List Int} (h : WW i i1) (i2 o o1 o2 o3 o4 o5 o6 o7 : Int) (o8 : List Instr) (o9 o10 o11 o12 o13 o14 : Int)
include h
theorem made2 (b1 : 0 ≤ o11) (b2 : o11 ≤ 255) (b3 : 0 ≤ o12) (b4 : o12 ≤ 255) (c0 : 0 ≤ o13) (c1 : o13 ≤ 10) (hl : o13 > 1 → 0 < i.length) :
    ∃ n A B, ref25_Made_j_2 a2 a3 i i1 i2 o o1 o2 o3 o4 o5 o6 o7 o8 1 o9 o10 o11 o12 o13 o14 0 0 (decide (o13 > 1)) false = some (n, A, B, false) ∧ 1 ≤ n ∧ n ≤ 24 ∧ (o13 > 1 → A ∈ i) ∧ (o13 ≤ 1 → A = 0) ∧ (opk o13 = 2 → B ∈ i) ∧ (opk o13 ≠ 2 → B = 0) := by
  have hlen := h.len
  have hle := h.le
  unfold ref25_Made_j_2
  by_cases g : o13 > 1
  · have hp := hl g
    have ma := Int.emod_nonneg o11 (show (i.length : Int) ≠ 0 by omega)
    have ml := Int.emod_lt_of_pos o11 (show 0 < (i.length : Int) by omega)
    have mb := Int.emod_nonneg o12 (show (i.length : Int) ≠ 0 by omega)
    have mk := Int.emod_lt_of_pos o12 (show 0 < (i.length : Int) by omega)
    have wa := h.b (o11 % (i.length : Int)).toNat (by omega)
    have wb := h.b (o12 % (i.length : Int)).toNat (by omega)
    have ia : nth i (o11 % (i.length : Int)).toNat ∈ i := nth_mem (by omega)
    have ib : nth i (o12 % (i.length : Int)).toNat ∈ i := nth_mem (by omega)
    have k1 : inK .i64 o11 = true := inK_i64 (by omega) (by omega)
    have k2 : inK .i64 o12 = true := inK_i64 (by omega) (by omega)
    have k3 : inK .i64 (nth i1 (o11 % (i.length : Int)).toNat + nth i1 (o12 % (i.length : Int)).toNat) = true := inK_i64 (by omega) (by omega)
    simp only [decide_eq_true g, cond_true, k1, Bool.cond_decide]
    rw [if_pos b1, if_pos (by omega), if_pos ma, if_pos (by omega), if_pos ma, if_pos (by omega)]
    by_cases e6 : o13 = 6
    · subst e6
      exact ⟨_, _, _, rfl, by omega, by omega, fun _ => ia, fun q => by omega, fun q => by simp [opk] at q, fun _ => rfl⟩
    by_cases e7 : o13 = 7
    · subst e7
      exact ⟨_, _, _, rfl, by omega, by omega, fun _ => ia, fun q => by omega, fun q => by simp [opk] at q, fun _ => rfl⟩
    by_cases e10 : o13 = 10
    · subst e10
      exact ⟨_, _, _, rfl, by omega, by omega, fun _ => ia, fun q => by omega, fun q => by simp [opk] at q, fun _ => rfl⟩
    rw [show (o13 != 6) = true from bne_iff_ne.2 e6, show (o13 != 7) = true from bne_iff_ne.2 e7, show (o13 != 10) = true from bne_iff_ne.2 e10]
    simp only [cond_true, k2, k3]
    rw [if_pos b3, if_pos (by omega), if_pos mb, if_pos (by omega), if_pos mb, if_pos (by omega)]
    exact ⟨_, _, _, rfl, by omega, by omega, fun _ => ia, fun q => by omega, fun _ => ib, fun q => absurd (opk_two g c1 e6 e7 e10) q⟩
  · rw [decide_eq_false g, cond_false]
    exact ⟨1, 0, 0, rfl, by omega, by omega, fun q => absurd q g, fun _ => rfl, fun q => by
      unfold opk at q
      rw [if_neg (by omega)] at q
      split at q <;> omega, fun _ => rfl⟩
omit h
theorem made3 {n A B : Int} (b3 : 0 ≤ o12) (b4 : o12 ≤ 255) (h1 : 1 ≤ n) (h2 : n ≤ 24) :
    ∃ n' B', ref25_Made_j_3 a2 a3 i i1 i2 o o1 o2 o3 o4 o5 o6 o7 o8 o9 o10 o11 o12 o13 o14 n (o13 == 7) A B false = some (n', A, B', false) ∧ 1 ≤ n' ∧ (o13 = 7 → -21 ≤ B' ∧ B' ≤ 21) ∧ (o13 ≠ 7 → B' = B) := by
  unfold ref25_Made_j_3
  by_cases e : o13 = 7
  · rw [show (o13 == 7) = true from beq_iff_eq.2 e]
    have m1 := Int.emod_nonneg o12 (show (9 : Int) ≠ 0 by omega)
    have m2 := Int.emod_lt_of_pos o12 (show (0 : Int) < 9 by omega)
    have k1 : inK .i64 (o12 % 9) = true := inK_i64 (by omega) (by omega)
    have k2 : inK .i64 (o12 % 9 - 4) = true := inK_i64 (by omega) (by omega)
    have k3 : inK .i64 (4 * n) = true := inK_i64 (by omega) (by omega)
    simp only [cond_true, Bool.cond_decide, k1, k2, k3]
    rw [if_pos b3, if_pos (by decide)]
    exact ⟨_, _, rfl, by omega, fun _ => ⟨by omega, by omega⟩, fun q => absurd e q⟩
  · rw [show (o13 == 7) = false from beq_eq_false_iff_ne.2 e]
    exact ⟨n, B, rfl, h1, fun q => absurd q e, fun _ => rfl⟩
/-- what is so of an instruction before its last fields are set -/
structure Pre4 (i : List Int) (n op A B : Int) : Prop where
  n1 : 1 ≤ n
  n2 : n ≤ 12
  o1 : 0 ≤ op
  o2 : op ≤ 10
  a : op > 1 → A ∈ i
  a0 : op ≤ 1 → A = 0
  b : if opk op = 2 then B ∈ i else if op = 7 then -21 ≤ B ∧ B ≤ 21 else B = 0
theorem made4 {n A B : Int} (h1 : 1 ≤ n) (c0 : 0 ≤ o13) (c1 : o13 ≤ 10) (hA : o13 > 1 → A ∈ i) (hA0 : o13 ≤ 1 → A = 0) (hB : if opk o13 = 2 then B ∈ i else if o13 = 7 then -21 ≤ B ∧ B ≤ 21 else B = 0) :
    ∃ n' op' A' B', ref25_Made_j_4 a2 a3 i i1 i2 o o1 o2 o3 o4 o5 o6 o7 o8 o9 o10 o11 o12 o13 o14 n (decide (n > 12)) A B false = some (n', op', A', B', false) ∧ Pre4 i n' op' A' B' := by
  unfold ref25_Made_j_4
  by_cases e : n > 12
  · rw [decide_eq_true e, cond_true]
    exact ⟨_, _, _, _, rfl, by decide, by decide, by decide, by decide, fun q => by omega, fun _ => rfl, by simp [opk]⟩
  · rw [decide_eq_false e, cond_false]
    exact ⟨_, _, _, _, rfl, h1, by omega, c0, c1, hA, hA0, hB⟩
theorem made5 {n op A B : Int} (b1 : 0 ≤ o11) (b2 : o11 ≤ 255) (h4 : 1 ≤ o4) (p : Pre4 i n op A B) :
    ∃ A', ref25_Made_j_5 a2 a3 i i1 i2 o o1 o2 o3 o4 o5 o6 o7 o8 o9 o10 o11 o12 o14 n (op == 0) op A B false = some (n, op, A', B, false) ∧ (op = 0 → 0 ≤ A' ∧ A' < o4) ∧ (op ≠ 0 → A' = A) := by
  unfold ref25_Made_j_5
  by_cases e : op = 0
  · rw [show (op == 0) = true from beq_iff_eq.2 e]
    simp only [cond_true, inK_i64 (show -9223372036854775808 ≤ o11 by omega) (by omega), Bool.cond_decide]
    rw [if_pos b1, if_pos (by omega)]
    exact ⟨_, rfl, fun _ => ⟨Int.emod_nonneg _ (by omega), Int.emod_lt_of_pos _ (by omega)⟩, fun q => absurd e q⟩
  · rw [show (op == 0) = false from beq_eq_false_iff_ne.2 e]
    exact ⟨A, rfl, fun q => absurd q e, fun _ => rfl⟩
theorem made6 {n op A B : Int} (b3 : 0 ≤ o12) (b4 : o12 ≤ 255) :
    ∃ x : Rat, ref25_Made_j_6 a2 a3 i i1 i2 o o1 o2 o3 o4 o5 o6 o7 o8 o9 o10 o11 o12 o14 n (op == 1) op A B false = some (n, op, A, B, x.Neg, x.Num, x.Den) ∧ okL 64 x ∧ (op = 1 → isR x = true ∧ ndig (val x.Num) ≤ 40 ∧ ndig (val x.Den) ≤ 40) ∧ (op ≠ 1 → x = nulR) := by
  unfold ref25_Made_j_6
  by_cases e : op = 1
  · rw [show (op == 1) = true from beq_iff_eq.2 e]
    have m1 := Int.emod_nonneg o12 (show (4 : Int) ≠ 0 by omega)
    have m2 := Int.emod_lt_of_pos o12 (show (0 : Int) < 4 by omega)
    obtain ⟨w1, w2⟩ := wrap_i8 (n := o11)
    obtain ⟨q, q1, q2, q3⟩ := small_const w1 w2 m1 (show o12 % 4 ≤ 255 by omega)
    simp only [cond_true, Bool.cond_decide, q1, Option.bind_some]
    rw [if_pos b3, if_pos (by decide)]
    have hsz := (sz1_of q2 q3).ok
    refine ⟨ofR q, rfl, hsz.mono (by decide), fun _ => ⟨isR_ofR q, ?_, ?_⟩, fun w => absurd e w⟩
    · have : val (ofR q).Num = q.num.natAbs := val_natW _
      rw [this]
      exact Nat.le_trans (ndig_le 2 _ (by omega)) (by decide)
    · have : val (ofR q).Den = q.den := val_natW _
      rw [this]
      exact Nat.le_trans (ndig_le 2 _ (by omega)) (by decide)
  · rw [show (op == 1) = false from beq_eq_false_iff_ne.2 e]
    exact ⟨nulR, rfl, ⟨fun z hz => (by cases hz), fun z hz => (by cases hz), Nat.zero_le _, Nat.zero_le _⟩, fun w => absurd w e, fun _ => rfl⟩
theorem made7 {n op A B : Int} {x : Rat} (b1 : 0 ≤ o10) (b2 : o10 ≤ 255) (h5 : 1 ≤ o5) (h5' : o5 ≤ 40) (h6 : 1 ≤ o6) (h6' : o6 ≤ 40) :
    ∃ To', ref25_Made_j_7 a2 a3 i i1 i2 o o1 o2 o3 o4 o5 o6 o7 o8 o9 o10 o11 o12 o14 n (op == 10) op A B x.Neg x.Num x.Den = some (n, op, To', A, B, x.Neg, x.Num, x.Den) ∧ (op = 10 → 0 ≤ To' ∧ To' < o5 * o6) ∧ (op ≠ 10 → To' = o14) := by
  unfold ref25_Made_j_7
  have hp : 1 ≤ o5 * o6 := by have := Int.mul_le_mul h5 h6 (by decide) (by omega); omega
  have hp' : o5 * o6 ≤ 40 * 40 := Int.mul_le_mul h5' h6' (by omega) (by decide)
  by_cases e : op = 10
  · rw [show (op == 10) = true from beq_iff_eq.2 e]
    simp only [cond_true, inK_i64 (show -9223372036854775808 ≤ o10 by omega) (by omega), inK_i64 (show -9223372036854775808 ≤ o5 * o6 by omega) (by omega), Bool.cond_decide]
    rw [if_pos b1, if_pos (by omega)]
    exact ⟨_, rfl, fun _ => ⟨Int.emod_nonneg _ (by omega), Int.emod_lt_of_pos _ (by omega)⟩, fun q => absurd e q⟩
  · rw [show (op == 10) = false from beq_eq_false_iff_ne.2 e]
    exact ⟨o14, rfl, fun q => absurd q e, fun _ => rfl⟩
end
end Go.Ab.M
end

section
/-
  PLAIN LAW: A CODE OF SMALL NUMBERS THAT THE DOCUMENT MAKES IS RIGHT.
-/
namespace Go.Ab.M
open Go.Proofs Go.Ab
set_option linter.unusedVariables false
set_option linter.unusedSimpArgs false

/-- a turn's fields are bytes -/
def S4Ok (z : S_Op_To_A_B) : Prop := inRange .u8 z.Op ∧ inRange .u8 z.To ∧ inRange .u8 z.A_ ∧ inRange .u8 z.B_
/-- a code's head, of small numbers -/
structure Hd (I R G : Int) : Prop where
  i1 : 1 ≤ I
  i2 : I ≤ 3
  r1 : 1 ≤ R
  r2 : R ≤ 3
  g1 : 1 ≤ G
  g2 : G ≤ 6
theorem made_j {I R G : Int} (hd : Hd I R G) {z : S_Op_To_A_B} (hz : S4Ok z) (a2 : List S_Op_To_A_B) (a3 : Int) {i i1 : List Int} (h : WW i i1) (hl : i.length ≤ 99) (i2 o o1 o2 o3 : Int) (o8 : List Instr) (ho8 : o8.length ≤ 1000) {op to : Int} (c0 : 0 ≤ op) (c1 : op ≤ 10) (ht0 : 0 ≤ to) (ht1 : to < G) (hp : op > 1 → 0 < i.length)
    (c : Code) (hI : c.Ins = I) (hR : c.Rows = R) (hC : c.Cols = I) (hG : c.Regs = G) (wr : List Int) (hw : ∀ q, q ∈ i → q ∈ wr) :
    ∃ j j1 x, ref25_Made_j a2 a3 i i1 i2 o o1 o2 o3 I R I G o8 1 z.Op z.To z.A_ z.B_ op to 0 0 false = some (j, j1, o8 ++ [x]) ∧ WW j j1 ∧ j.length ≤ i.length + 1 ∧ (∀ q, q ∈ j → q ∈ nextW wr x) ∧ insB c wr x = true ∧ okL 64 x.Num := by
  obtain ⟨⟨z1, z2⟩, ⟨z3, z4⟩, ⟨z5, z6⟩, ⟨z7, z8⟩⟩ := hz
  have z2 : z.Op ≤ 255 := z2
  have z4 : z.To ≤ 255 := z4
  have z6 : z.A_ ≤ 255 := z6
  have z8 : z.B_ ≤ 255 := z8
  obtain ⟨n, A, B, e2, n1, n2, hA, hA0, hB, hB0⟩ := made2 a2 a3 h i2 o o1 o2 o3 I R I G o8 z.Op z.To z.A_ z.B_ op to z5 z6 z7 z8 c0 c1 hp
  obtain ⟨n', B', e3, n1', hB7, hB7'⟩ := made3 a2 a3 (i := i) (i1 := i1) i2 o o1 o2 o3 I R I G o8 z.Op z.To z.A_ z.B_ op to (A := A) (B := B) z7 z8 n1 n2
  obtain ⟨n3, op3, A3, B3, e4, p⟩ := made4 a2 a3 (i := i) (i1 := i1) i2 o o1 o2 o3 I R I G o8 z.Op z.To z.A_ z.B_ op to (A := A) (B := B') n1' c0 c1 hA hA0 (by
    by_cases q : opk op = 2
    · rw [if_pos q]
      have : op ≠ 7 := fun e => by rw [e] at q; simp [opk] at q
      rw [hB7' this]; exact hB q
    · rw [if_neg q]
      by_cases q7 : op = 7
      · rw [if_pos q7]; exact hB7 q7
      · rw [if_neg q7, hB7' q7]; exact hB0 q)
  obtain ⟨A5, e5, hA5, hA5'⟩ := made5 a2 a3 (i := i) (i1 := i1) i2 o o1 o2 o3 I R I G o8 z.Op z.To z.A_ z.B_ to z5 z6 hd.i1 p
  obtain ⟨x, e6, hx1, hx2, hx3⟩ := made6 a2 a3 (i := i) (i1 := i1) i2 o o1 o2 o3 I R I G o8 z.Op z.To z.A_ z.B_ to (n := n3) (op := op3) (A := A5) (B := B3) z7 z8
  obtain ⟨T, e7, hT, hT'⟩ := made7 a2 a3 (i := i) (i1 := i1) i2 o o1 o2 o3 I R I G o8 z.Op z.To z.A_ z.B_ to (n := n3) (op := op3) (A := A5) (B := B3) (x := x) z3 z4 hd.r1 (by have := hd.r2; omega) hd.i1 (by have := hd.i2; omega)
  have hins : insB c wr (Instr.mk op3 T A5 B3 x) = true := by
    unfold insB numB aB bB tB
    simp only
    rw [decide_eq_true p.o1, decide_eq_true p.o2]
    have f1 : (if op3 = 1 then isR x && (decide (ndig (val x.Num) ≤ 40) && decide (ndig (val x.Den) ≤ 40)) else decide (x = nulR)) = true := by
      by_cases q : op3 = 1
      · rw [if_pos q, (hx2 q).1, decide_eq_true (hx2 q).2.1, decide_eq_true (hx2 q).2.2]; rfl
      · rw [if_neg q]; exact decide_eq_true (hx3 q)
    have f2 : (if op3 = 0 then decide (0 ≤ A5) && decide (A5 < c.Ins) else if op3 = 1 then decide (A5 = 0) else decide (A5 ∈ wr)) = true := by
      by_cases q : op3 = 0
      · rw [if_pos q, decide_eq_true (hA5 q).1, decide_eq_true (by rw [hI]; exact (hA5 q).2)]; rfl
      · rw [if_neg q]
        by_cases q1 : op3 = 1
        · rw [if_pos q1, hA5' q]; exact decide_eq_true (p.a0 (by omega))
        · rw [if_neg q1, hA5' q]
          have := p.o1
          exact decide_eq_true (hw _ (p.a (by omega)))
    have f3 : (if opk op3 = 2 then decide (B3 ∈ wr) else if op3 = 7 then decide (-21 ≤ B3) && decide (B3 ≤ 21) else decide (B3 = 0)) = true := by
      have pb := p.b
      by_cases q : opk op3 = 2
      · rw [if_pos q] at pb ⊢
        exact decide_eq_true (hw _ pb)
      · rw [if_neg q] at pb ⊢
        by_cases q7 : op3 = 7
        · rw [if_pos q7] at pb ⊢
          rw [decide_eq_true pb.1, decide_eq_true pb.2]; rfl
        · rw [if_neg q7] at pb ⊢
          exact decide_eq_true pb
    have f4 : (decide (0 ≤ T) && decide (T < if op3 = 10 then c.Rows * c.Cols else c.Regs)) = true := by
      by_cases q : op3 = 10
      · rw [if_pos q, hR, hC, decide_eq_true (hT q).1, decide_eq_true (hT q).2]; rfl
      · rw [if_neg q, hG, hT' q, decide_eq_true ht0, decide_eq_true ht1]; rfl
    rw [f1, f2, f3, f4]; rfl
  have g1 : o8.length + 1 ≤ 2147483648 := by omega
  unfold ref25_Made_j
  rw [e2, Option.bind_some]
  simp only
  rw [e3, Option.bind_some]
  simp only
  rw [e4, Option.bind_some]
  simp only
  rw [e5, Option.bind_some]
  simp only
  rw [e6, Option.bind_some]
  simp only
  rw [e7, Option.bind_some]
  simp only [Bool.cond_decide, if_pos g1]
  by_cases q : op3 = 10
  · rw [show (op3 != 10) = false from by rw [q]; rfl]
    refine ⟨i, i1, Instr.mk op3 T A5 B3 x, rfl, h, by omega, fun r hr => ?_, hins, hx1⟩
    unfold nextW
    rw [if_pos q]; exact hw r hr
  · rw [show (op3 != 10) = true from bne_iff_ne.2 q]
    obtain ⟨j, j1, e8, h1, h2, h3, h4⟩ := noted_eq h hl T n3 p.n1 p.n2
    simp only [cond_true, e8, Option.bind_some]
    refine ⟨j, j1, Instr.mk op3 T A5 B3 x, rfl, h1, h2, fun r hr => ?_, hins, hx1⟩
    unfold nextW
    rw [if_neg q, List.mem_append, List.mem_singleton]
    exact (h4 r hr).imp (hw r) id
theorem wrOf_congr {l m : List Instr} : ∀ {i : Nat}, (∀ j, j < i → nth l j = nth m j) → wrOf l i = wrOf m i
  | 0, _ => rfl
  | i + 1, h => by
    unfold wrOf
    rw [h i (by omega), wrOf_congr fun j hj => h j (by omega)]
/-- what is so while a code is made -/
structure MS (I R G : Int) (k : Nat) (i i1 : List Int) (l : List Instr) : Prop where
  ww : WW i i1
  le : i.length ≤ k
  len : l.length = k
  wr : ∀ q, q ∈ i → q ∈ wrOf l k
  ins : ∀ j, j < k → insB (Code.mk I R I G []) (wrOf l j) (nth l j) = true
  num : ∀ x, x ∈ l → okL 64 x.Num
theorem made_round {I R G : Int} (hd : Hd I R G) {a2 : List S_Op_To_A_B} (hz : ∀ z, z ∈ a2 → S4Ok z) (ha : a2.length ≤ 16) {k : Nat} (hk : k < a2.length) {i i1 : List Int} {l : List Instr} (h : MS I R G k i i1 l) :
    ∃ j j1 l', ref25_Made_l_rd a2 16 i i1 (k : Int) 0 0 0 0 I R I G l = some (.inl (j, j1, ((k + 1 : Nat) : Int), 0, 0, 0, 0, I, R, I, G, l')) ∧ MS I R G (k + 1) j j1 l' := by
  have hzk := hz _ (nth_mem hk)
  have hz2 := hzk
  obtain ⟨⟨z1, z2⟩, ⟨z3, z4⟩, _, _⟩ := hz2
  have z1 : 0 ≤ (nth a2 k).Op := z1
  have z2 : (nth a2 k).Op ≤ 255 := z2
  have z3 : 0 ≤ (nth a2 k).To := z3
  have z4 : (nth a2 k).To ≤ 255 := z4
  have m1 := Int.emod_nonneg (nth a2 k).Op (show (11 : Int) ≠ 0 by omega)
  have m2 := Int.emod_lt_of_pos (nth a2 k).Op (show (0 : Int) < 11 by omega)
  have t0 := Int.emod_nonneg (nth a2 k).To (show G ≠ 0 by have := hd.g1; omega)
  have t1 := Int.emod_lt_of_pos (nth a2 k).To (show 0 < G by have := hd.g1; omega)
  have hg := hd.g1
  have hle := h.le
  have hlen := h.len
  -- which Op
  obtain ⟨op, hop0, hop1, hop2, hopE⟩ : ∃ op : Int, 0 ≤ op ∧ op ≤ 10 ∧ (op > 1 → 0 < i.length) ∧ ∀ (F : Int → Option ((List Int × List Int × Int × Int × Int × Int × Int × Int × Int × Int × Int × List Instr) ⊕ (Int × Int × Int × Int × Int × Int × Int × Int × List Instr))),
      (bif ((i.length : Nat) : Int) == 0 then bif decide ((nth a2 k).Op % 11 > 1) then F 0 else F ((nth a2 k).Op % 11) else F ((nth a2 k).Op % 11)) = F op := by
    by_cases e : i.length = 0
    · have e' : (((i.length : Nat) : Int) == 0) = true := beq_iff_eq.2 (by omega)
      by_cases g : (nth a2 k).Op % 11 > 1
      · exact ⟨0, by omega, by omega, fun q => by omega, fun F => by rw [e', cond_true, decide_eq_true g, cond_true]⟩
      · exact ⟨(nth a2 k).Op % 11, m1, by omega, fun q => absurd q g, fun F => by rw [e', cond_true, decide_eq_false g, cond_false]⟩
    · have e' : (((i.length : Nat) : Int) == 0) = false := beq_eq_false_iff_ne.2 (by omega)
      exact ⟨(nth a2 k).Op % 11, m1, by omega, fun _ => by omega, fun F => by rw [e', cond_false]⟩
  obtain ⟨j, j1, x, e1, h1, h2, h3, h4, h5⟩ := made_j hd hzk a2 16 h.ww (by omega) (k : Int) 0 0 0 0 l (by omega) hop0 hop1 t0 t1 hop2 (Code.mk I R I G []) rfl rfl rfl rfl (wrOf l k) h.wr
  have hold : ∀ q, q < k → nth (l ++ [x]) q = nth l q := fun q hq => nth_ap (by omega)
  have hnew : nth (l ++ [x]) k = x := nth_sn hlen
  have hwr : ∀ q, q ≤ k → wrOf (l ++ [x]) q = wrOf l q := fun q hq => wrOf_congr fun p hp => hold p (by omega)
  refine ⟨j, j1, l ++ [x], ?_, ⟨h1, by omega, by rw [List.length_append, hlen]; rfl, fun q hq => ?_, fun q hq => ?_, fun y hy => ?_⟩⟩
  · have g1 : ((k : Nat) : Int) < ((a2.length : Nat) : Int) := by omega
    have g2 : (k : Int) < 16 := by omega
    have k1 : inK .i64 ((nth a2 k).Op % 11) = true := inK_i64 (by omega) (by omega)
    have k2 : inK .i64 (nth a2 k).To = true := inK_i64 (by omega) (by omega)
    have k3 : inK .i64 ((k : Int) + 1) = true := inK_i64 (by omega) (by omega)
    have ne : (l ++ [x]).isEmpty = false := by cases l <;> rfl
    have hc : (k : Int) + 1 = ((k + 1 : Nat) : Int) := by omega
    unfold ref25_Made_l_rd
    rw [Int.toNat_natCast, decide_eq_true g1, decide_eq_true g2, decide_eq_true (show (0 : Int) ≤ (k : Int) by omega), decide_eq_true hk, decide_eq_true z1, decide_eq_true (show (0 : Nat) < 11 by omega), k1, k2, decide_eq_true z3, decide_eq_true (show 0 < G by omega)]
    simp only [cond_true]
    refine (hopE fun op => (ref25_Made_j a2 16 i i1 (k : Int) 0 0 0 0 I R I G l 1 (nth a2 k).Op (nth a2 k).To (nth a2 k).A_ (nth a2 k).B_ op ((nth a2 k).To % G) 0 0 false).bind fun x0 => bif inK .i64 ((k : Int) + 1) then bif !x0.2.2.isEmpty then some (.inl (x0.1, x0.2.1, (k : Int) + 1, 0, 0, 0, 0, I, R, I, G, x0.2.2)) else none else none).trans ?_
    rw [e1, Option.bind_some, k3, cond_true]
    simp only
    rw [ne, Bool.not_false, cond_true, hc]
  · rw [show wrOf (l ++ [x]) (k + 1) = nextW (wrOf (l ++ [x]) k) (nth (l ++ [x]) k) from rfl, hwr k (Nat.le_refl _), hnew]
    exact h3 q hq
  · rw [hwr q (by omega)]
    rcases Nat.lt_or_ge q k with g | g
    · rw [hold q g]; exact h.ins q g
    · have : q = k := by omega
      subst this
      rw [hnew]; exact h4
  · rcases List.mem_append.1 hy with hy | hy
    · exact h.num y hy
    · rw [List.mem_singleton] at hy; subst hy; exact h5
theorem MadeC_eq {a b d : Int} (ha : inRange .u8 a) (hb : inRange .u8 b) (hdd : inRange .u8 d) {l : List S_Op_To_A_B} (hz : ∀ z, z ∈ l → S4Ok z) (hl : l.length ≤ 16) : ∃ c, ref25_Made a b d l 16 = some c ∧ RC c ∧ ∀ x, x ∈ c.All → okL 64 x.Num := by
  have a0 : 0 ≤ a := ha.1
  have b0 : 0 ≤ b := hb.1
  have d0 : 0 ≤ d := hdd.1
  have m1 := Int.emod_nonneg a (show (3 : Int) ≠ 0 by omega)
  have m2 := Int.emod_lt_of_pos a (show (0 : Int) < 3 by omega)
  have m3 := Int.emod_nonneg b (show (3 : Int) ≠ 0 by omega)
  have m4 := Int.emod_lt_of_pos b (show (0 : Int) < 3 by omega)
  have m5 := Int.emod_nonneg d (show (6 : Int) ≠ 0 by omega)
  have m6 := Int.emod_lt_of_pos d (show (0 : Int) < 6 by omega)
  have hd : Hd (1 + a % 3) (1 + b % 3) (1 + d % 6) := ⟨by omega, by omega, by omega, by omega, by omega, by omega⟩
  have i1 : inK .i64 (a % 3) = true := inK_i64 (by omega) (by omega)
  have i2 : inK .i64 (1 + a % 3) = true := inK_i64 (by omega) (by omega)
  have i3 : inK .i64 (b % 3) = true := inK_i64 (by omega) (by omega)
  have i4 : inK .i64 (1 + b % 3) = true := inK_i64 (by omega) (by omega)
  have i5 : inK .i64 (d % 6) = true := inK_i64 (by omega) (by omega)
  have i6 : inK .i64 (1 + d % 6) = true := inK_i64 (by omega) (by omega)
  unfold ref25_Made
  rw [decide_eq_true a0, decide_eq_true b0, decide_eq_true d0, decide_eq_true (show (0 : Nat) < 3 by omega), decide_eq_true (show (0 : Nat) < 6 by omega), i1, i2, i3, i4, i5, i6]
  simp only [cond_true]
  generalize 1 + a % 3 = I at hd ⊢
  generalize 1 + b % 3 = R at hd ⊢
  generalize 1 + d % 6 = G at hd ⊢
  unfold ref25_Made_l
  obtain ⟨y, hy, i, i1, out, rfl, hq⟩ := loop_inv (round := fun (σ : List Int × List Int × Int × Int × Int × Int × Int × Int × Int × Int × Int × List Instr) => ref25_Made_l_rd l 16 σ.1 σ.2.1 σ.2.2.1 σ.2.2.2.1 σ.2.2.2.2.1 σ.2.2.2.2.2.1 σ.2.2.2.2.2.2.1 σ.2.2.2.2.2.2.2.1 σ.2.2.2.2.2.2.2.2.1 σ.2.2.2.2.2.2.2.2.2.1 σ.2.2.2.2.2.2.2.2.2.2.1 σ.2.2.2.2.2.2.2.2.2.2.2)
    (Q := fun y => ∃ (i i1 : List Int) (out : List Instr), y = ((0 : Int), (0 : Int), (0 : Int), (0 : Int), I, R, I, G, out) ∧ MS I R G l.length i i1 out)
    (fun k σ => ∃ (i i1 : List Int) (out : List Instr), σ = (i, i1, (k : Int), (0 : Int), (0 : Int), (0 : Int), (0 : Int), I, R, I, G, out) ∧ MS I R G k i i1 out) l.length ([], [], 0, 0, 0, 0, 0, I, R, I, G, [])
    ⟨[], [], [], rfl, ⟨⟨rfl, by decide, fun k hk => by simp at hk⟩, Nat.le_refl _, rfl, fun q hq => (by cases hq), fun j hj => by omega, fun x hx => (by cases hx)⟩⟩
    (fun k σ hk hI => by
      obtain ⟨i, i1, out, rfl, h⟩ := hI
      obtain ⟨j, j1, l', g1, g2⟩ := made_round hd hz hl hk h
      exact ⟨_, g1, j, j1, l', rfl, g2⟩)
    (fun σ hI => by
      obtain ⟨i, i1, out, rfl, h⟩ := hI
      refine ⟨_, ?_, i, i1, out, rfl, h⟩
      simp only [ref25_Made_l_rd, Bool.cond_decide]
      rw [if_neg (by omega)])
    (by simp only [FU]; omega)
  refine ⟨Code.mk I R I G out, by rw [hy]; rfl, ⟨?_, fun j hj => ?_⟩, hq.num⟩
  · unfold headB
    rw [decide_eq_true_eq]
    show 1 ≤ I ∧ I ≤ 40 ∧ 1 ≤ R ∧ R ≤ 40 ∧ I = I ∧ 0 ≤ G ∧ G ≤ 100000 ∧ out.length ≤ 100000
    have := hq.len
    have := hd.i1; have := hd.i2; have := hd.r1; have := hd.r2; have := hd.g1; have := hd.g2
    refine ⟨?_, ?_, ?_, ?_, rfl, ?_, ?_, ?_⟩ <;> omega
  · exact hq.ins j (by rw [← hq.len]; exact hj)
end Go.Ab.M
end
