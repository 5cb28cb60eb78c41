/-
  THE LAW 'RegsAssign' HOLDS AT EVERY INPUT.
  Conditions: none.
-/
import Derived.Test.YthikenallhbkpaaLwRegsAssign
import Derived.Test.YthikenallhbkpaaTO
import Derived.Test.YthikenallhbkpaaPT
import Derived.Test.YthikenallhbkpaaPG
import Derived.Test.YthikenallhbkpaaPE
section
/-
  PLAIN LAW: RIGHT CODES, by the program and by the document.
-/
namespace Go.Ab.M
open Go.Proofs Go.Ab
set_option linter.unusedVariables false
set_option linter.unusedSimpArgs false

abbrev nulR : Rat := Rat.mk false [] []
/-- how many of A and B an Op reads -/
def opk (op : Int) : Nat := if 2 ≤ op ∧ op ≤ 5 ∨ op = 8 ∨ op = 9 then 2 else if op = 6 ∨ op = 7 ∨ op = 10 then 1 else 0
/-- the registers that an instruction reads -/
def rgs (x : Instr) : List Int := if opk x.Op = 2 then [x.A_, x.B_] else if opk x.Op = 1 then [x.A_] else []
def numB (x : Instr) : Bool := if x.Op = 1 then isR x.Num && (decide (ndig (val x.Num.Num) ≤ 40) && decide (ndig (val x.Num.Den) ≤ 40)) else decide (x.Num = nulR)
def aB (I : Int) (wr : List Int) (x : Instr) : Bool := if x.Op = 0 then decide (0 ≤ x.A_) && decide (x.A_ < I) else if x.Op = 1 then decide (x.A_ = 0) else decide (x.A_ ∈ wr)
def bB (wr : List Int) (x : Instr) : Bool := if opk x.Op = 2 then decide (x.B_ ∈ wr) else if x.Op = 7 then decide (-21 ≤ x.B_) && decide (x.B_ ≤ 21) else decide (x.B_ = 0)
def tB (c : Code) (x : Instr) : Bool := decide (0 ≤ x.To) && decide (x.To < if x.Op = 10 then c.Rows * c.Cols else c.Regs)
def insB (c : Code) (wr : List Int) (x : Instr) : Bool := (decide (0 ≤ x.Op) && decide (x.Op ≤ 10)) && numB x && aB c.Ins wr x && bB wr x && tB c x
def nextW (wr : List Int) (x : Instr) : List Int := if x.Op = 10 then wr else wr ++ [x.To]
def rightF (c : Code) : List Int → List Instr → Bool
  | _, [] => true
  | wr, x :: l => insB c wr x && rightF c (nextW wr x) l
def headB (c : Code) : Bool := decide (1 ≤ c.Ins ∧ c.Ins ≤ 40 ∧ 1 ≤ c.Rows ∧ c.Rows ≤ 40 ∧ c.Cols = c.Ins ∧ 0 ≤ c.Regs ∧ c.Regs ≤ 100000 ∧ c.All.length ≤ 100000)
def rightB (c : Code) : Bool := headB c && rightF c [] c.All

theorem op_of (n : Int) : n = 0 ∨ n = 1 ∨ n = 2 ∨ n = 3 ∨ n = 4 ∨ n = 5 ∨ n = 6 ∨ n = 7 ∨ n = 8 ∨ n = 9 ∨ n = 10 ∨ n < 0 ∨ 10 < n := by omega

theorem digs_lt {a : List Int} (h : Wds a) : val a < 10 ^ (10 * a.length) := by
  have h1 := val_lt h
  have h2 : 4294967296 ^ a.length ≤ 10 ^ (10 * a.length) := by rw [Nat.pow_mul]; exact Nat.pow_le_pow_left (by decide) _
  omega
theorem vm_number_eq {x : Instr} (h : okL 64 x.Num) : vm_number x = some (numB x) := by
  have hn := h
  obtain ⟨h1, h2, h3, h4⟩ := h
  unfold vm_number numB
  by_cases c : x.Op = 1
  · simp only [c, if_true, bne_self_eq_false, cond_false, ratio_Right_eq (show okR x.Num from ⟨h1, h2, by omega, by omega⟩), Option.bind_some]
    cases hr : isR x.Num with
    | false => rfl
    | true =>
      have hr' := hr
      unfold isR at hr'
      simp only [Bool.and_eq_true] at hr'
      have e1 := (isN_iff h1).1 hr'.1.1.1.1
      have e2 := (isN_iff h2).1 hr'.1.1.1.2
      have d1 : deci_Digits x.Num.Num = some ((ndig (val x.Num.Num) : Nat) : Int) := by
        have := deci_Digits_eq (digs_lt h1) (by rw [← e1]; omega) (by omega)
        rwa [← e1] at this
      have d2 : deci_Digits x.Num.Den = some ((ndig (val x.Num.Den) : Nat) : Int) := by
        have := deci_Digits_eq (digs_lt h2) (by rw [← e2]; omega) (by omega)
        rwa [← e2] at this
      simp only [cond_true, d1, d2, Option.bind_some, Bool.cond_decide, Bool.true_and]
      by_cases q : ndig (val x.Num.Num) ≤ 40
      · rw [if_pos (by omega), decide_eq_true q, Bool.true_and]
        congr 1
        exact decide_eq_decide.2 (by omega)
      · rw [if_neg (by omega), decide_eq_false q, Bool.false_and]
  · have c' : (x.Op != 1) = true := by rw [bne_iff_ne]; exact c
    rw [c', cond_true, if_neg c]
    have hl1 : ∀ n : Nat, (((n : Int) + 1 == 0) = false) := fun n => by rw [beq_eq_false_iff_ne]; omega
    have hl2 : ∀ n : Nat, ¬ ((n : Int) + 1 = 0) := fun n => by omega
    cases hx : x.Num with
    | mk a b d => cases a <;> cases b <;> cases d <;> simp [nulR, hl1, hl2]
theorem ref_number_eq {x : Instr} (h : okL 64 x.Num) (i4 : Bool) : ref25_fields_j_4 x i4 x.Num.Neg = some (numB x) := by
  have hn := h
  obtain ⟨h1, h2, h3, h4⟩ := h
  unfold ref25_fields_j_4 numB
  rw [show Rat.mk x.Num.Neg x.Num.Num x.Num.Den = x.Num from rfl]
  by_cases c : x.Op = 1
  · simp only [c, if_true, bne_self_eq_false, cond_false, ref08_Right_eq hn (by decide) (by decide), Option.bind_some]
    cases hr : isR x.Num with
    | false => rfl
    | true =>
      have hr' := hr
      unfold isR at hr'
      simp only [Bool.and_eq_true] at hr'
      have e1 := (isN_iff h1).1 hr'.1.1.1.1
      have e2 := (isN_iff h2).1 hr'.1.1.1.2
      obtain ⟨r1, p1, s1⟩ := ref06_Print_size (digs_lt h1) (by rw [← e1]; omega) (by omega)
      obtain ⟨r2, p2, s2⟩ := ref06_Print_size (digs_lt h2) (by rw [← e2]; omega) (by omega)
      rw [← e1] at p1
      rw [← e2] at p2
      simp only [cond_true, p1, p2, Option.bind_some, Bool.cond_decide, Bool.true_and, s1, s2]
      by_cases q : ndig (val x.Num.Num) ≤ 40
      · rw [if_pos (by omega), decide_eq_true q, Bool.true_and]
        congr 1
        exact decide_eq_decide.2 (by omega)
      · rw [if_neg (by omega), decide_eq_false q, Bool.false_and]
  · have c' : (x.Op != 1) = true := by rw [bne_iff_ne]; exact c
    rw [c', cond_true, if_neg c, ref08_Equal_eq (by omega) (by omega)]
    rfl

/-! ### the program -/
/-- which registers were written -/
structure Wrt (R : Int) (wr : List Int) (o : List Bool) : Prop where
  len : (o.length : Int) = R
  b : R ≤ 100000
  at_ : ∀ r : Nat, r < o.length → (nth o r = true ↔ (r : Int) ∈ wr)
  in_ : ∀ r, r ∈ wr → 0 ≤ r ∧ r < R
theorem vm_register_t {R : Int} {wr : List Int} {o : List Bool} (h : Wrt R wr o) (r : Int) : vm_register true r o = some (decide (r ∈ wr)) := by
  unfold vm_register
  have hl := h.len
  simp only [Bool.not_true, cond_false, Bool.cond_decide]
  by_cases c1 : 0 ≤ r
  · by_cases c2 : r < (o.length : Int)
    · rw [if_pos c1, if_pos c2, if_pos c1, if_pos (by omega)]
      have := h.at_ r.toNat (by omega)
      rw [Int.toNat_of_nonneg c1] at this
      congr 1
      by_cases q : r ∈ wr
      · rw [decide_eq_true q]; exact this.2 q
      · rw [decide_eq_false q, ← Bool.not_eq_true]; exact fun w => q (this.1 w)
    · rw [if_pos c1, if_neg c2, decide_eq_false (fun q => by have := h.in_ r q; omega)]
  · rw [if_neg c1, decide_eq_false (fun q => by have := h.in_ r q; omega)]
theorem vm_register_f (r : Int) (o : List Bool) : vm_register false r o = some (decide (r = 0)) := by
  unfold vm_register
  simp only [Bool.not_false, cond_true]
  rfl
theorem prod_in {c : Code} (h : headB c = true) : inK .i64 (c.Rows * c.Cols) = true := by
  unfold headB at h
  rw [decide_eq_true_eq] at h
  have h1 : c.Rows * c.Cols ≤ 40 * 40 := Int.mul_le_mul (by omega) (by omega) (by omega) (by decide)
  have h2 : 0 ≤ c.Rows * c.Cols := Int.mul_nonneg (by omega) (by omega)
  exact inK_i64 (by omega) (by omega)
theorem shape_none {n : Int} (h : n < 0 ∨ 10 < n) : vm_shapeOf n = some (S_a_b_power.mk false false false, false) := by
  unfold vm_shapeOf
  have h0 : (n == 0) = false := by rw [beq_eq_false_iff_ne]; omega
  have h1 : (n == 1) = false := by rw [beq_eq_false_iff_ne]; omega
  have h2 : (n == 2) = false := by rw [beq_eq_false_iff_ne]; omega
  have h3 : (n == 3) = false := by rw [beq_eq_false_iff_ne]; omega
  have h4 : (n == 4) = false := by rw [beq_eq_false_iff_ne]; omega
  have h5 : (n == 5) = false := by rw [beq_eq_false_iff_ne]; omega
  have h6 : (n == 6) = false := by rw [beq_eq_false_iff_ne]; omega
  have h7 : (n == 7) = false := by rw [beq_eq_false_iff_ne]; omega
  have h8 : (n == 8) = false := by rw [beq_eq_false_iff_ne]; omega
  have h9 : (n == 9) = false := by rw [beq_eq_false_iff_ne]; omega
  have h10 : (n == 10) = false := by rw [beq_eq_false_iff_ne]; omega
  rw [h0, h1, h2, h3, h4, h5, h6, h7, h8, h9, h10]
  rfl
theorem vm_instr_eq {c : Code} (hc : headB c = true) {x : Instr} (hx : okL 64 x.Num) {wr : List Int} {o : List Bool} (h : Wrt c.Regs wr o) : vm_instr c x o = some (insB c wr x) := by
  have hp := prod_in hc
  unfold vm_instr insB
  rw [vm_number_eq hx]
  generalize numB x = nb
  unfold aB bB tB opk
  have r0 := vm_register_f x.A_ o
  have r1 := vm_register_f x.B_ o
  have r2 := vm_register_t h x.A_
  have r3 := vm_register_t h x.B_
  rcases op_of x.Op with e | e | e | e | e | e | e | e | e | e | e | e | e
  case inr.inr.inr.inr.inr.inr.inr.inr.inr.inr.inr.inl =>
    rw [shape_none (.inl e), decide_eq_false (show ¬ 0 ≤ x.Op by omega)]
    rfl
  case inr.inr.inr.inr.inr.inr.inr.inr.inr.inr.inr.inr =>
    rw [shape_none (.inr e), decide_eq_false (show ¬ x.Op ≤ 10 by omega), Bool.and_false]
    rfl
  all_goals
    rw [e]
    cases nb
    · simp [vm_shapeOf]
    · simp [vm_shapeOf, vm_instr_j, vm_instr_j_2, vm_instr_j_3, r0, r1, r2, r3, hp, Bool.cond_decide]
      (repeat' split) <;> (try simp_all) <;> (try (intros; omega)) <;> (simp only [Bool.cond_decide]; (repeat' split) <;> simp_all) <;> (try (intros; omega))
theorem Wrt.next {R : Int} {wr : List Int} {o : List Bool} (h : Wrt R wr o) {r : Int} (h0 : 0 ≤ r) (h1 : r < R) : Wrt R (wr ++ [r]) (o.set r.toNat true) := by
  refine ⟨by rw [List.length_set]; exact h.len, h.b, fun k hk => ?_, fun q hq => ?_⟩
  · rw [List.length_set] at hk
    have := h.at_ k hk
    have hn : nth (o.set r.toNat true) k = if r.toNat = k then true else nth o k := by
      simp only [nth, List.getD_eq_getElem?_getD, List.getElem?_set]
      by_cases c : r.toNat = k
      · rw [if_pos c, if_pos c, if_pos (by omega)]; rfl
      · rw [if_neg c, if_neg c]
    rw [hn, List.mem_append, List.mem_singleton]
    by_cases c : r.toNat = k
    · rw [if_pos c]
      exact ⟨fun _ => .inr (by omega), fun _ => rfl⟩
    · rw [if_neg c, this]
      exact ⟨.inl, fun q => q.resolve_right (by omega)⟩
  · rcases List.mem_append.1 hq with q' | q'
    · exact h.in_ q q'
    · rw [List.mem_singleton] at q'; subst q'; exact ⟨h0, h1⟩
theorem insB_to {c : Code} {wr : List Int} {x : Instr} (h : insB c wr x = true) : 0 ≤ x.Op ∧ x.Op ≤ 10 ∧ numB x = true ∧ aB c.Ins wr x = true ∧ bB wr x = true ∧ 0 ≤ x.To ∧ x.To < if x.Op = 10 then c.Rows * c.Cols else c.Regs := by
  unfold insB tB at h
  simp only [Bool.and_eq_true, decide_eq_true_eq] at h
  exact ⟨h.1.1.1.1.1, h.1.1.1.1.2, h.1.1.1.2, h.1.1.2, h.1.2, h.2.1, h.2.2⟩
theorem rightF_drop {c : Code} {wr : List Int} {i : Nat} (hi : i < c.All.length) : rightF c wr (c.All.drop i) = (insB c wr (nth c.All i) && rightF c (nextW wr (nth c.All i)) (c.All.drop (i + 1))) := by
  rw [List.drop_eq_getElem_cons hi, rightF, nth_get hi]
theorem vm_Right_l_eq {c : Code} (hc : headB c = true) (hx : ∀ x, x ∈ c.All → okL 64 x.Num) : ∀ (k i : Nat) (wr : List Int) (o : List Bool) (n : Nat), i + k = c.All.length → Wrt c.Regs wr o → k < n →
    loopN (fun (σ : Nat × List Bool) => vm_Right_l_rd c σ.1 σ.2) n (i, o) = some (if rightF c wr (c.All.drop i) = true then .inr () else .inl ())
  | k, i, wr, o, 0, _, _, h => by omega
  | 0, i, wr, o, n + 1, hi, h, _ => by
    rw [loopN_at (y := .inr (.inr ())) (by
      simp only [vm_Right_l_rd, Bool.cond_decide]
      rw [if_neg (by omega)])]
    rw [List.drop_eq_nil_of_le (by omega)]
    rfl
  | k + 1, i, wr, o, n + 1, hi, h, hk => by
    have hil : i < c.All.length := by omega
    have hcl : c.All.length ≤ 100000 := by unfold headB at hc; rw [decide_eq_true_eq] at hc; exact hc.2.2.2.2.2.2.2
    have hins := vm_instr_eq hc (hx _ (nth_mem hil)) h
    rw [rightF_drop hil]
    cases hb : insB c wr (nth c.All i) with
    | false =>
      rw [hb] at hins
      rw [loopN_at (y := .inr (.inl ())) (by
        simp only [vm_Right_l_rd, Bool.cond_decide, hins, Option.bind_some, Bool.not_false, cond_true]
        rw [if_pos (by omega), if_pos hil])]
      rfl
    | true =>
      rw [hb] at hins
      obtain ⟨_, _, _, _, _, t1, t2⟩ := insB_to hb
      by_cases e : (nth c.All i).Op = 10
      · have e' : ((nth c.All i).Op != 10) = false := by rw [e]; rfl
        rw [loopN_at (y := .inl (i + 1, o)) (by
          simp only [vm_Right_l_rd, Bool.cond_decide, hins, Option.bind_some, Bool.not_true, cond_false, e', inK_i64 (show -9223372036854775808 ≤ (i : Int) + 1 by omega) (by omega), cond_true]
          rw [if_pos (by omega), if_pos hil])]
        show loopN _ n (i + 1, o) = _
        rw [vm_Right_l_eq hc hx k (i + 1) wr o n (by omega) h (by omega)]
        unfold nextW
        rw [if_pos e, Bool.true_and]
      · have e' : ((nth c.All i).Op != 10) = true := by rw [bne_iff_ne]; exact e
        rw [if_neg e] at t2
        have hl := h.len
        rw [loopN_at (y := .inl (i + 1, o.set (nth c.All i).To.toNat true)) (by
          simp only [vm_Right_l_rd, Bool.cond_decide, hins, Option.bind_some, Bool.not_true, cond_false, e', inK_i64 (show -9223372036854775808 ≤ (i : Int) + 1 by omega) (by omega), cond_true]
          rw [if_pos (by omega), if_pos hil, if_pos t1, if_pos (by omega), if_pos (by omega)])]
        show loopN _ n (i + 1, o.set (nth c.All i).To.toNat true) = _
        rw [vm_Right_l_eq hc hx k (i + 1) _ _ n (by omega) (h.next t1 t2) (by omega)]
        unfold nextW
        rw [if_neg e, Bool.true_and]
theorem vm_Right_eq {c : Code} (hx : ∀ x, x ∈ c.All → okL 64 x.Num) : vm_Right c = some (rightB c) := by
  unfold vm_Right rightB
  cases hc : headB c with
  | false =>
    have hc' := hc
    unfold headB at hc'
    rw [decide_eq_false_iff_not] at hc'
    rw [Bool.false_and]
    simp only [Bool.cond_decide]
    by_cases a1 : c.Ins < 1
    · rw [if_pos a1]
    by_cases a2 : c.Ins > 40
    · rw [if_neg a1, if_pos a2]
    by_cases a3 : c.Rows < 1
    · rw [if_neg a1, if_neg a2, if_pos a3]
    by_cases a4 : c.Rows > 40
    · rw [if_neg a1, if_neg a2, if_neg a3, if_pos a4]
    by_cases a5 : c.Cols = c.Ins
    · have a5' : (c.Cols != c.Ins) = false := by rw [a5]; exact bne_self_eq_false _
      by_cases a6 : c.Regs < 0
      · rw [if_neg a1, if_neg a2, if_neg a3, if_neg a4, a5', cond_false, if_pos a6]
      by_cases a7 : c.Regs > 100000
      · rw [if_neg a1, if_neg a2, if_neg a3, if_neg a4, a5', cond_false, if_neg a6, if_pos a7]
      by_cases a8 : ((c.All.length : Nat) : Int) > 100000
      · rw [if_neg a1, if_neg a2, if_neg a3, if_neg a4, a5', cond_false, if_neg a6, if_neg a7, if_pos a8]
      · exact absurd ⟨by omega, by omega, by omega, by omega, a5, by omega, by omega, by omega⟩ hc'
    · have a5' : (c.Cols != c.Ins) = true := by rw [bne_iff_ne]; exact a5
      rw [if_neg a1, if_neg a2, if_neg a3, if_neg a4, a5', cond_true]
  | true =>
    have hc' := hc
    unfold headB at hc'
    rw [decide_eq_true_eq] at hc'
    obtain ⟨a1, a2, a3, a4, a5, a6, a7, a8⟩ := hc'
    have a5' : (c.Cols != c.Ins) = false := by rw [a5]; exact bne_self_eq_false _
    simp only [Bool.cond_decide]
    rw [if_neg (by omega), if_neg (by omega), if_neg (by omega), if_neg (by omega), a5', cond_false, if_neg (by omega), if_neg (by omega), if_neg (by omega), if_pos a6, if_pos (by omega)]
    unfold vm_Right_l
    rw [vm_Right_l_eq hc hx c.All.length 0 [] (List.replicate c.Regs.toNat false) FU (by omega) ⟨by rw [List.length_replicate]; omega, a7, fun r hr => by
        rw [List.length_replicate] at hr
        have : nth (List.replicate c.Regs.toNat false) r = false := by simp [nth, List.getD_eq_getElem?_getD, List.getElem?_replicate, hr]
        rw [this]; simp, fun r hr => by cases hr⟩ (by rw [FU_eq]; omega), List.drop_zero, Bool.true_and]
    cases rightF c [] c.All <;> rfl
end Go.Ab.M
end

section
/-
  PLAIN LAW: RIGHT CODES by the document.
-/
namespace Go.Ab.M
open Go.Proofs Go.Ab
set_option linter.unusedVariables false
set_option linter.unusedSimpArgs false

theorem ref25_in_eq {l : List Int} (hl : l.length ≤ 200000) (n : Int) : ref25_in l n = some (decide (n ∈ l)) := by
  have hh : ref25_in_l l n 0 = some (if (List.range l.length).all (fun i => decide (nth l i ≠ n)) = true then .inr () else .inl ()) := by
    unfold ref25_in_l
    refine loop_all (round := fun σ => ref25_in_l_rd l n σ) (fun i => decide (nth l i ≠ n)) l.length (.inr ()) (.inl ()) (fun i hi hp => ?_) (fun i hi hp => ?_) ?_ (by simp only [FU]; omega)
    · rw [decide_eq_true_eq] at hp
      have e : (nth l i == n) = false := beq_eq_false_iff_ne.2 hp
      simp only [ref25_in_l_rd, Bool.cond_decide, e, cond_false, inK_i64 (show -9223372036854775808 ≤ (i : Int) + 1 by omega) (by omega), cond_true]
      rw [if_pos (by omega), if_pos hi]
    · rw [decide_eq_false_iff_not, ne_eq, Decidable.not_not] at hp
      have e : (nth l i == n) = true := beq_iff_eq.2 hp
      simp only [ref25_in_l_rd, Bool.cond_decide, e, cond_true]
      rw [if_pos (by omega), if_pos hi]
    · simp only [ref25_in_l_rd, Bool.cond_decide]
      rw [if_neg (by omega)]
  unfold ref25_in
  rw [hh, Option.bind_some]
  by_cases c : n ∈ l
  · obtain ⟨i, hi, rfl⟩ := List.getElem_of_mem c
    rw [if_neg]
    · rw [decide_eq_true c]; rfl
    · rw [List.all_eq_true]
      intro h
      have := h i (List.mem_range.2 hi)
      rw [decide_eq_true_eq, nth_get hi] at this
      exact this rfl
  · rw [if_pos]
    · rw [decide_eq_false c]; rfl
    · rw [List.all_eq_true]
      intro i hi
      rw [decide_eq_true_eq]
      exact fun e => c (e ▸ nth_mem (List.mem_range.1 hi))
theorem regs_none {n : Int} (h : n < 0 ∨ 10 < n) : ref25_regs n = some (-1) := by
  unfold ref25_regs
  have h0 : (n == 0) = false := by rw [beq_eq_false_iff_ne]; omega
  have h1 : (n == 1) = false := by rw [beq_eq_false_iff_ne]; omega
  have h6 : (n == 6) = false := by rw [beq_eq_false_iff_ne]; omega
  have h7 : (n == 7) = false := by rw [beq_eq_false_iff_ne]; omega
  have h8 : (n == 8) = false := by rw [beq_eq_false_iff_ne]; omega
  have h9 : (n == 9) = false := by rw [beq_eq_false_iff_ne]; omega
  have h10 : (n == 10) = false := by rw [beq_eq_false_iff_ne]; omega
  rw [h0, h1, h6, h7, h8, h9, h10]
  simp only [cond_false, Bool.cond_decide]
  by_cases c : n ≥ 2
  · rw [if_pos c, if_neg (by omega)]
  · rw [if_neg c]
theorem ref25_fields_eq {c : Code} (hc : headB c = true) {x : Instr} (hx : okL 64 x.Num) {wr : List Int} (hl : wr.length ≤ 200000) : ref25_fields c x wr = some (insB c wr x) := by
  have hp := prod_in hc
  have hn := ref_number_eq hx
  unfold ref25_fields insB
  rw [ref25_in_eq hl, ref25_in_eq hl]
  generalize numB x = nb at hn ⊢
  unfold aB bB tB opk
  rcases op_of x.Op with e | e | e | e | e | e | e | e | e | e | e | e | e
  case inr.inr.inr.inr.inr.inr.inr.inr.inr.inr.inr.inl =>
    rw [regs_none (.inl e), decide_eq_false (show ¬ 0 ≤ x.Op by omega)]
    rfl
  case inr.inr.inr.inr.inr.inr.inr.inr.inr.inr.inr.inr =>
    rw [regs_none (.inr e), decide_eq_false (show ¬ x.Op ≤ 10 by omega), Bool.and_false]
    rfl
  all_goals
    unfold ref25_fields_j ref25_fields_j_2 ref25_fields_j_3
    rw [e]
    simp [ref25_regs, hn, hp, Bool.cond_decide]
    (repeat' split) <;> (try simp_all) <;> (try (intros; omega)) <;> (try (cases nb <;> simp_all)) <;> (try (intros; omega)) <;> (by_cases q1 : x.B_ = 0 <;> by_cases q2 : x.A_ = 0 <;> (try rw [show (x.A_ != 0) = true from bne_iff_ne.2 q2]) <;> (try rw [show (x.B_ != 0) = true from bne_iff_ne.2 q1]) <;> simp [q1, q2])
/-- what is written behind a right code's first instructions -/
theorem ref25_Right_l_eq {c : Code} (hc : headB c = true) (hx : ∀ x, x ∈ c.All → okL 64 x.Num) : ∀ (k i : Nat) (wr : List Int) (n : Nat), i + k = c.All.length → wr.length ≤ i → k < n →
    loopN (fun (σ : List Int × Nat) => ref25_Right_l_rd c σ.1 σ.2) n (wr, i) = some (if rightF c wr (c.All.drop i) = true then .inr () else .inl ())
  | k, i, wr, 0, _, _, h => by omega
  | 0, i, wr, n + 1, hi, h, _ => by
    rw [loopN_at (y := .inr (.inr ())) (by
      simp only [ref25_Right_l_rd, Bool.cond_decide]
      rw [if_neg (by omega)])]
    rw [List.drop_eq_nil_of_le (by omega)]
    rfl
  | k + 1, i, wr, n + 1, hi, h, hk => by
    have hil : i < c.All.length := by omega
    have hcl : c.All.length ≤ 100000 := by unfold headB at hc; rw [decide_eq_true_eq] at hc; exact hc.2.2.2.2.2.2.2
    have hins := ref25_fields_eq hc (hx _ (nth_mem hil)) (wr := wr) (by omega)
    rw [rightF_drop hil]
    cases hb : insB c wr (nth c.All i) with
    | false =>
      rw [hb] at hins
      rw [loopN_at (y := .inr (.inl ())) (by
        simp only [ref25_Right_l_rd, Bool.cond_decide, hins, Option.bind_some, Bool.not_false, cond_true]
        rw [if_pos (by omega), if_pos hil])]
      rfl
    | true =>
      rw [hb] at hins
      by_cases e : (nth c.All i).Op = 10
      · have e' : ((nth c.All i).Op != 10) = false := by rw [e]; rfl
        rw [loopN_at (y := .inl (wr, i + 1)) (by
          simp only [ref25_Right_l_rd, Bool.cond_decide, hins, Option.bind_some, Bool.not_true, cond_false, e', inK_i64 (show -9223372036854775808 ≤ (i : Int) + 1 by omega) (by omega), cond_true]
          rw [if_pos (by omega), if_pos hil, if_pos hil])]
        show loopN _ n (wr, i + 1) = _
        rw [ref25_Right_l_eq hc hx k (i + 1) wr n (by omega) (by omega) (by omega)]
        unfold nextW
        rw [if_pos e, Bool.true_and]
      · have e' : ((nth c.All i).Op != 10) = true := by rw [bne_iff_ne]; exact e
        rw [loopN_at (y := .inl (wr ++ [(nth c.All i).To], i + 1)) (by
          simp only [ref25_Right_l_rd, Bool.cond_decide, hins, Option.bind_some, Bool.not_true, cond_false, e', inK_i64 (show -9223372036854775808 ≤ (i : Int) + 1 by omega) (by omega), cond_true]
          rw [if_pos (by omega), if_pos hil, if_pos hil, if_pos hil, if_pos (by omega)])]
        show loopN _ n (wr ++ [(nth c.All i).To], i + 1) = _
        rw [ref25_Right_l_eq hc hx k (i + 1) _ n (by omega) (by simp; omega) (by omega)]
        unfold nextW
        rw [if_neg e, Bool.true_and]
theorem ref25_Right_eq {c : Code} (hx : ∀ x, x ∈ c.All → okL 64 x.Num) : ref25_Right c = some (rightB c) := by
  unfold ref25_Right rightB
  cases hc : headB c with
  | false =>
    have hc' := hc
    unfold headB at hc'
    rw [decide_eq_false_iff_not] at hc'
    rw [Bool.false_and]
    simp only [Bool.cond_decide]
    by_cases a1 : c.Ins < 1
    · rw [if_pos a1]
    by_cases a2 : c.Ins > 40
    · rw [if_neg a1, if_pos a2]
    by_cases a3 : c.Rows < 1
    · rw [if_neg a1, if_neg a2, if_pos a3]
    by_cases a4 : c.Rows > 40
    · rw [if_neg a1, if_neg a2, if_neg a3, if_pos a4]
    by_cases a5 : c.Cols = c.Ins
    · have a5' : (c.Cols != c.Ins) = false := by rw [a5]; exact bne_self_eq_false _
      by_cases a6 : c.Regs < 0
      · rw [if_neg a1, if_neg a2, if_neg a3, if_neg a4, a5', cond_false, if_pos a6]
      by_cases a7 : c.Regs > 100000
      · rw [if_neg a1, if_neg a2, if_neg a3, if_neg a4, a5', cond_false, if_neg a6, if_pos a7]
      by_cases a8 : ((c.All.length : Nat) : Int) > 100000
      · rw [if_neg a1, if_neg a2, if_neg a3, if_neg a4, a5', cond_false, if_neg a6, if_neg a7, if_pos a8]
      · exact absurd ⟨by omega, by omega, by omega, by omega, a5, by omega, by omega, by omega⟩ hc'
    · have a5' : (c.Cols != c.Ins) = true := by rw [bne_iff_ne]; exact a5
      rw [if_neg a1, if_neg a2, if_neg a3, if_neg a4, a5', cond_true]
  | true =>
    have hc' := hc
    unfold headB at hc'
    rw [decide_eq_true_eq] at hc'
    obtain ⟨a1, a2, a3, a4, a5, a6, a7, a8⟩ := hc'
    have a5' : (c.Cols != c.Ins) = false := by rw [a5]; exact bne_self_eq_false _
    simp only [Bool.cond_decide]
    rw [if_neg (by omega), if_neg (by omega), if_neg (by omega), if_neg (by omega), a5', cond_false, if_neg (by omega), if_neg (by omega), if_neg (by omega)]
    unfold ref25_Right_l
    rw [ref25_Right_l_eq hc hx c.All.length 0 [] FU (by omega) (Nat.le_refl _) (by rw [FU_eq]; omega), List.drop_zero, Bool.true_and]
    cases rightF c [] c.All <;> rfl
end Go.Ab.M
end

section
/-
  PLAIN LAW: VALUES, WHAT IS READ OF THEM, AND HOW LONG THEY LIVE.
-/
namespace Go.Ab.M
open Go.Proofs Go.Ab
set_option linter.unusedVariables false
set_option linter.unusedSimpArgs false

/-- which instruction wrote a register last, ahead of another one -/
def Wl (l : List Instr) (r : Int) : Nat → Int
  | 0 => -1
  | i + 1 => if (nth l i).Op ≠ 10 ∧ (nth l i).To = r then (i : Int) else Wl l r i
/-- the values that an instruction reads -/
def rv (l : List Instr) (i : Nat) : List Int := (rgs (nth l i)).map fun r => Wl l r i
/-- the registers that were written -/
def wrOf (l : List Instr) : Nat → List Int
  | 0 => []
  | i + 1 => nextW (wrOf l i) (nth l i)

theorem Wl_bd (l : List Instr) (r : Int) : ∀ i, -1 ≤ Wl l r i ∧ Wl l r i < (i : Int)
  | 0 => ⟨Int.le_refl _, by unfold Wl; omega⟩
  | i + 1 => by
    have := Wl_bd l r i
    unfold Wl
    split <;> omega
theorem Wl_of {l : List Instr} {r : Int} : ∀ {i v : Nat}, Wl l r i = (v : Int) → v < i ∧ (nth l v).Op ≠ 10 ∧ (nth l v).To = r
  | 0, v, h => by unfold Wl at h; omega
  | i + 1, v, h => by
    unfold Wl at h
    split at h
    · rename_i c
      have : v = i := by omega
      subst this
      exact ⟨by omega, c⟩
    · obtain ⟨a, b⟩ := Wl_of h
      exact ⟨by omega, b⟩
theorem Wl_congr {l m : List Instr} {r : Int} : ∀ {i : Nat}, (∀ j, j < i → nth l j = nth m j) → Wl l r i = Wl m r i
  | 0, _ => rfl
  | i + 1, h => by
    unfold Wl
    rw [h i (by omega), Wl_congr fun j hj => h j (by omega)]
theorem mem_wrOf {l : List Instr} {r : Int} : ∀ {i : Nat}, r ∈ wrOf l i ↔ 0 ≤ Wl l r i
  | 0 => by unfold wrOf Wl; simp
  | i + 1 => by
    have ih := mem_wrOf (l := l) (r := r) (i := i)
    unfold wrOf nextW Wl
    by_cases c : (nth l i).Op = 10
    · rw [if_pos c, if_neg (fun q => q.1 c)]; exact ih
    · rw [if_neg c, List.mem_append, List.mem_singleton]
      by_cases d : (nth l i).To = r
      · rw [if_pos ⟨c, d⟩]
        exact ⟨fun _ => by omega, fun _ => .inr d.symm⟩
      · rw [if_neg (fun q => d q.2), ← ih]
        exact ⟨fun q => q.resolve_right fun e => d e.symm, .inl⟩
theorem rightF_all {c : Code} : ∀ (k i : Nat), i + k = c.All.length → (rightF c (wrOf c.All i) (c.All.drop i) = true ↔ ∀ j, i ≤ j → j < c.All.length → insB c (wrOf c.All j) (nth c.All j) = true)
  | 0, i, h => by
    rw [List.drop_eq_nil_of_le (by omega)]
    exact ⟨fun _ j h1 h2 => by omega, fun _ => rfl⟩
  | k + 1, i, h => by
    rw [rightF_drop (by omega), Bool.and_eq_true]
    have ih := rightF_all (c := c) k (i + 1) (by omega)
    rw [show nextW (wrOf c.All i) (nth c.All i) = wrOf c.All (i + 1) from rfl, ih]
    refine ⟨fun q j h1 h2 => ?_, fun q => ⟨q i (Nat.le_refl _) (by omega), fun j h1 h2 => q j (by omega) h2⟩⟩
    rcases Nat.lt_or_ge i j with g | g
    · exact q.2 j (by omega) h2
    · have : j = i := by omega
      subst this
      exact q.1
/-- what is so of a right code -/
structure RC (c : Code) : Prop where
  hd : headB c = true
  ins : ∀ j, j < c.All.length → insB c (wrOf c.All j) (nth c.All j) = true
theorem rightB_iff {c : Code} : rightB c = true ↔ RC c := by
  unfold rightB
  rw [Bool.and_eq_true]
  have := rightF_all (c := c) c.All.length 0 (by omega)
  rw [List.drop_zero] at this
  rw [show rightF c [] c.All = rightF c (wrOf c.All 0) c.All from rfl, this]
  exact ⟨fun h => ⟨h.1, fun j hj => h.2 j (Nat.zero_le _) hj⟩, fun h => ⟨h.hd, fun j _ hj => h.ins j hj⟩⟩
theorem RC.len {c : Code} (h : RC c) : c.All.length ≤ 100000 := by have := h.hd; unfold headB at this; rw [decide_eq_true_eq] at this; exact this.2.2.2.2.2.2.2
theorem rgs_mem {x : Instr} {r : Int} : r ∈ rgs x ↔ (1 ≤ opk x.Op ∧ r = x.A_) ∨ (opk x.Op = 2 ∧ r = x.B_) := by
  unfold rgs
  have : opk x.Op ≤ 2 := by unfold opk; split <;> (try split) <;> omega
  split
  · rename_i h; rw [h]; simp
  · split
    · rename_i h; rw [h]; simp
    · simp; omega
theorem RC.read {c : Code} (h : RC c) {i : Nat} (hi : i < c.All.length) {r : Int} (hr : r ∈ rgs (nth c.All i)) : 0 ≤ Wl c.All r i := by
  obtain ⟨h1, h2, h3, h4, h5, _⟩ := insB_to (h.ins i hi)
  rw [← mem_wrOf]
  rcases rgs_mem.1 hr with ⟨k, rfl⟩ | ⟨k, rfl⟩
  · unfold aB at h4
    unfold opk at k
    rw [if_neg (fun e => by rw [e] at k; simp at k), if_neg (fun e => by rw [e] at k; simp at k), decide_eq_true_eq] at h4
    exact h4
  · unfold bB at h5
    rw [if_pos k, decide_eq_true_eq] at h5
    exact h5

/-! ### who reads a value last -/
def La (l : List Instr) : Nat → Nat → Int
  | 0, _ => 0
  | i + 1, v => if v = i ∨ (v : Int) ∈ rv l i then (i : Int) else La l i v
theorem La_gt {l : List Instr} {n v : Nat} (hv : v ≤ n) : ∀ N, (n : Int) < La l N v ↔ ∃ m, n < m ∧ m < N ∧ (v : Int) ∈ rv l m
  | 0 => by unfold La; exact ⟨fun h => by omega, fun ⟨m, _, h, _⟩ => by omega⟩
  | N + 1 => by
    have ih := La_gt (l := l) hv N
    unfold La
    by_cases c : v = N ∨ (v : Int) ∈ rv l N
    · rw [if_pos c]
      constructor
      · intro h
        refine ⟨N, by omega, by omega, c.resolve_left (by omega)⟩
      · rintro ⟨m, h1, h2, h3⟩; omega
    · rw [if_neg c, ih]
      constructor
      · rintro ⟨m, h1, h2, h3⟩; exact ⟨m, h1, by omega, h3⟩
      · rintro ⟨m, h1, h2, h3⟩
        refine ⟨m, h1, ?_, h3⟩
        rcases Nat.lt_or_ge m N with g | g
        · exact g
        · have : m = N := by omega
          subst this
          exact absurd (.inr h3) c

/-! ### the program's lasts -/
theorem mgetW (z v : Int) : ∀ (m : List (Int × Int)) (k k' : Int), mget (mput m k v) k' z = if k = k' then v else mget m k' z
  | [], k, k' => by simp only [mput, mget]
  | x :: m, k, k' => by
    have ih := mgetW z v m k k'
    simp only [mput]
    by_cases h : x.1 = k
    · rw [if_pos h]
      simp only [mget]
      by_cases c : k = k'
      · rw [if_pos c, if_pos c]
      · rw [if_neg c, if_neg c, if_neg (by rw [h]; exact c)]
    · rw [if_neg h]
      simp only [mget]
      by_cases c : x.1 = k'
      · rw [if_pos c, if_pos c, if_neg (by rw [← c]; exact fun e => h e.symm)]
      · rw [if_neg c, if_neg c, ih]
theorem nth_setI {l : List Int} {i : Nat} {x : Int} {j : Nat} (hi : i < l.length) : nth (l.set i x) j = if j = i then x else nth l j := by
  simp only [nth, List.getD_eq_getElem?_getD, List.getElem?_set]
  by_cases c : i = j
  · subst c; rw [if_pos rfl, if_pos rfl, if_pos hi]; rfl
  · rw [if_neg c, if_neg (Ne.symm c)]
theorem reads_eq {x : Instr} (h0 : 0 ≤ x.Op) (h1 : x.Op ≤ 10) : regs_reads x = some (rgs x) := by
  unfold regs_reads rgs opk
  rcases op_of x.Op with e | e | e | e | e | e | e | e | e | e | e | e | e
  case inr.inr.inr.inr.inr.inr.inr.inr.inr.inr.inr.inl => omega
  case inr.inr.inr.inr.inr.inr.inr.inr.inr.inr.inr.inr => omega
  all_goals rw [e]; rfl
theorem lasts_in {c : Code} {i : Nat} {wm : List (Int × Int)} (ws : List Int) (hw : ∀ r, r ∈ ws → 0 ≤ mget wm r 0) (hl : ws.length ≤ 1000) : ∀ (out : List Int), (∀ r, r ∈ ws → (mget wm r 0).toNat < out.length) →
    ∃ o, regs_lasts_l_2 c i wm ws 0 out = some o ∧ o.length = out.length ∧ ∀ v, nth o v = if (v : Int) ∈ ws.map (fun r => mget wm r 0) then (i : Int) else nth out v := by
  intro out ho
  let step := fun (o : List Int) (r : Int) => o.set (mget wm r 0).toNat (i : Int)
  have len : ∀ (xs : List Int) (o : List Int), (xs.foldl step o).length = o.length := fun xs => by
    induction xs with
    | nil => exact fun _ => rfl
    | cons a t ih => exact fun o => by rw [List.foldl_cons, ih]; exact List.length_set
  refine ⟨ws.foldl step out, ?_, len _ _, fun v => ?_⟩
  · have := loop_run (round := fun σ : Nat × List Int => regs_lasts_l_2_rd c i wm ws σ.1 σ.2) (fun k => (k, (ws.take k).foldl step out)) ws.length (r := ws.foldl step out) (fun k hk => by
      have hm := nth_mem hk
      have h1 := hw _ hm
      have h2 := ho _ hm
      simp only [regs_lasts_l_2_rd, Bool.cond_decide, inK_i64 (show -9223372036854775808 ≤ (k : Int) + 1 by omega) (by omega), cond_true]
      rw [if_pos (by omega), if_pos hk, if_pos h1, if_pos (by rw [len]; exact h2), if_pos (by rw [len]; exact h2), take_nth hk, List.foldl_append]
      rfl) (by
      simp only [regs_lasts_l_2_rd, Bool.cond_decide]
      rw [if_neg (by omega), List.take_length]) (by simp only [FU]; omega)
    exact this
  · clear hl
    induction ws generalizing out with
    | nil => simp
    | cons a t ih =>
      rw [List.foldl_cons]
      have h1 := ho a List.mem_cons_self
      have h0 := hw a List.mem_cons_self
      rw [ih (fun r hr => hw r (List.mem_cons_of_mem _ hr)) (step out a) (fun r hr => by
        show _ < (out.set _ _).length
        rw [List.length_set]; exact ho r (List.mem_cons_of_mem _ hr)), List.map_cons]
      by_cases c : (v : Int) ∈ t.map fun r => mget wm r 0
      · rw [if_pos c, if_pos (List.mem_cons_of_mem _ c)]
      · rw [if_neg c]
        show nth (out.set _ _) v = _
        rw [nth_setI h1]
        by_cases d : v = (mget wm a 0).toNat
        · rw [if_pos d, if_pos (List.mem_cons.2 (.inl (by omega)))]
        · rw [if_neg d, if_neg (fun q => by
            rcases List.mem_cons.1 q with q | q
            · omega
            · exact c q)]
/-- what the map of writers is -/
def WM (l : List Instr) (i : Nat) (m : List (Int × Int)) : Prop := ∀ r, 0 ≤ Wl l r i → mget m r 0 = Wl l r i
theorem WM.next {l : List Instr} {i : Nat} {m : List (Int × Int)} (h : WM l i m) : WM l (i + 1) (if (nth l i).Op = 10 then m else mput m (nth l i).To (i : Int)) := fun r hr => by
  unfold Wl at hr ⊢
  by_cases c : (nth l i).Op = 10
  · rw [if_pos c]
    rw [if_neg (fun q => q.1 c)] at hr ⊢
    exact h r hr
  · rw [if_neg c, mgetW]
    by_cases d : (nth l i).To = r
    · rw [if_pos d, if_pos ⟨c, d⟩]
    · rw [if_neg d]
      rw [if_neg (fun q => d q.2)] at hr ⊢
      exact h r hr
theorem regs_lasts_eq {c : Code} (h : RC c) : ∃ o, regs_lasts c = some o ∧ o.length = c.All.length ∧ ∀ v, v < c.All.length → nth o v = La c.All c.All.length v := by
  have hN := h.len
  have hz : ∀ N v, nth (List.replicate N (0 : Int)) v = 0 := fun N v => by
    simp only [nth, List.getD_eq_getElem?_getD, List.getElem?_replicate]
    split <;> rfl
  unfold regs_lasts regs_lasts_l
  obtain ⟨o, ho, hq⟩ := loop_inv (round := fun σ : Nat × List Int × (List (Int × Int)) => regs_lasts_l_rd c σ.1 σ.2.1 σ.2.2) (Q := fun o => o.length = c.All.length ∧ ∀ v, v < c.All.length → nth o v = La c.All c.All.length v)
    (fun i σ => σ.1 = i ∧ σ.2.1.length = c.All.length ∧ (∀ v, v < c.All.length → nth σ.2.1 v = La c.All i v) ∧ WM c.All i σ.2.2) c.All.length (0, List.replicate c.All.length 0, [])
    ⟨rfl, List.length_replicate, fun v _ => hz _ v, fun r hr => by unfold Wl at hr; omega⟩
    (fun i σ hi hI => by
      obtain ⟨k, out, wm⟩ := σ
      obtain ⟨rfl, h2, h3, h4⟩ := hI
      simp only at h2 h3 h4 hi ⊢
      obtain ⟨q1, q2, _⟩ := insB_to (h.ins k hi)
      have hrd : ∀ r, r ∈ rgs (nth c.All k) → mget wm r 0 = Wl c.All r k ∧ 0 ≤ Wl c.All r k := fun r hr => ⟨h4 r (h.read hi hr), h.read hi hr⟩
      have hlen : (rgs (nth c.All k)).length ≤ 1000 := by unfold rgs; split <;> (try split) <;> simp
      obtain ⟨o, e1, e2, e3⟩ := lasts_in (c := c) (i := k) (rgs (nth c.All k)) (fun r hr => by rw [(hrd r hr).1]; exact (hrd r hr).2) hlen (out.set k (k : Int)) (fun r hr => by
        have := (Wl_bd c.All r k).2
        rw [(hrd r hr).1, List.length_set, h2]; have := (hrd r hr).2; omega)
      have hmap : (rgs (nth c.All k)).map (fun r => mget wm r 0) = rv c.All k := by
        unfold rv
        exact List.map_congr_left fun r hr => (hrd r hr).1
      have hat : ∀ v, v < c.All.length → nth o v = La c.All (k + 1) v := fun v hv => by
        rw [e3, hmap, nth_setI (by omega)]
        unfold La
        by_cases c1 : (v : Int) ∈ rv c.All k
        · rw [if_pos c1, if_pos (.inr c1)]
        · rw [if_neg c1]
          by_cases c2 : v = k
          · rw [if_pos c2, if_pos (.inl c2)]
          · rw [if_neg c2, if_neg (fun q => q.elim c2 c1)]
            exact h3 v hv
      have hwm := h4.next
      by_cases c1 : (nth c.All k).Op = 10
      · rw [if_pos c1] at hwm
        refine ⟨(k + 1, o, wm), ?_, rfl, by rw [e2, List.length_set]; exact h2, hat, hwm⟩
        have c1' : ((nth c.All k).Op != 10) = false := by rw [c1]; rfl
        simp only [regs_lasts_l_rd, Bool.cond_decide, reads_eq q1 q2, Option.bind_some, e1, c1', cond_false, inK_i64 (show -9223372036854775808 ≤ (k : Int) + 1 by omega) (by omega), cond_true]
        rw [if_pos (by omega), if_pos hi, if_pos (by omega), if_pos (by omega)]
      · rw [if_neg c1] at hwm
        refine ⟨(k + 1, o, mput wm (nth c.All k).To (k : Int)), ?_, rfl, by rw [e2, List.length_set]; exact h2, hat, hwm⟩
        have c1' : ((nth c.All k).Op != 10) = true := by rw [bne_iff_ne]; exact c1
        simp only [regs_lasts_l_rd, Bool.cond_decide, reads_eq q1 q2, Option.bind_some, e1, c1', cond_true, inK_i64 (show -9223372036854775808 ≤ (k : Int) + 1 by omega) (by omega)]
        rw [if_pos (by omega), if_pos hi, if_pos (by omega), if_pos (by omega)])
    (fun σ hI => by
      obtain ⟨k, out, wm⟩ := σ
      obtain ⟨e1, h2, h3, h4⟩ := hI
      simp only at e1 h2 h3 h4
      subst e1
      refine ⟨out, ?_, h2, h3⟩
      simp only [regs_lasts_l_rd, Bool.cond_decide]
      rw [if_neg (by omega)])
    (by simp only [FU]; omega)
  refine ⟨o, ?_, hq⟩
  rw [Bool.cond_decide, if_pos (by omega), ho]
  rfl
end Go.Ab.M
end

section
/-
  PLAIN LAW: HOW MANY VALUES ARE ALIVE AT ONCE, by the document.
-/
namespace Go.Ab.M
open Go.Proofs Go.Ab
set_option linter.unusedVariables false
set_option linter.unusedSimpArgs false

/-- is a value alive behind an instruction? -/
def alvB (l : List Instr) (n v : Nat) : Bool := decide ((nth l v).Op ≠ 10) && (decide (v = n) || (decide (v < n) && decide ((n : Int) < La l l.length v)))
def cntA (l : List Instr) (n : Nat) : Nat := ((List.range (n + 1)).filter (alvB l n)).length
def mxA (l : List Instr) : Nat → Nat
  | 0 => 0
  | n + 1 => max (mxA l n) (cntA l n)
theorem mxA_le (l : List Instr) : ∀ n, mxA l n ≤ n
  | 0 => Nat.le_refl _
  | n + 1 => by
    have h1 := mxA_le l n
    have h2 : cntA l n ≤ n + 1 := by unfold cntA; exact Nat.le_trans (List.length_filter_le _ _) (by rw [List.length_range]; omega)
    unfold mxA
    omega

theorem ref27_reads_eq {x : Instr} (h0 : 0 ≤ x.Op) (h1 : x.Op ≤ 10) (r : Int) : ref27_reads x r = some (decide (r ∈ rgs x)) := by
  unfold ref27_reads rgs opk
  have sw : (decide (r = x.A_)) = (x.A_ == r) := by
    by_cases c : x.A_ = r
    · rw [c]; simp
    · rw [decide_eq_false (Ne.symm c)]; symm; exact beq_eq_false_iff_ne.2 c
  have sw2 : (decide (r = x.B_)) = (x.B_ == r) := by
    by_cases c : x.B_ = r
    · rw [c]; simp
    · rw [decide_eq_false (Ne.symm c)]; symm; exact beq_eq_false_iff_ne.2 c
  rcases op_of x.Op with e | e | e | e | e | e | e | e | e | e | e | e | e
  case inr.inr.inr.inr.inr.inr.inr.inr.inr.inr.inr.inl => omega
  case inr.inr.inr.inr.inr.inr.inr.inr.inr.inr.inr.inr => omega
  all_goals
    rw [e]
    simp [sw, sw2, Bool.cond_decide]
    try (cases x.A_ == r <;> simp)
theorem Value_l_eq {c : Code} {r : Int} (hN : c.All.length ≤ 100000) : ∀ (k : Nat) (n : Nat), k ≤ c.All.length → k < n →
    loopN (fun (σ : Int) => ref27_Value_l_rd c r σ) n ((k : Int) - 1) = some (if 0 ≤ Wl c.All r k then .inl (Wl c.All r k) else .inr ())
  | k, 0, _, h => by omega
  | 0, n + 1, _, _ => by
    rw [loopN_at (y := .inr (.inr ())) (by
      simp only [ref27_Value_l_rd, Bool.cond_decide]
      rw [if_neg (by omega)])]
    unfold Wl
    rw [if_neg (by omega)]
    rfl
  | k + 1, n + 1, hk, hn => by
    have e0 : ((k + 1 : Nat) : Int) - 1 = (k : Int) := by omega
    rw [e0]
    have ih := Value_l_eq (c := c) (r := r) hN k n (by omega) (by omega)
    have hw : Wl c.All r (k + 1) = if (nth c.All k).Op ≠ 10 ∧ (nth c.All k).To = r then (k : Int) else Wl c.All r k := rfl
    by_cases c1 : (nth c.All k).Op = 10
    · have c1' : ((nth c.All k).Op != 10) = false := by rw [c1]; rfl
      rw [loopN_at (y := .inl ((k : Int) - 1)) (by
        simp only [ref27_Value_l_rd, Bool.cond_decide, Int.toNat_natCast, c1', cond_false, inK_i64 (show -9223372036854775808 ≤ (k : Int) - 1 by omega) (by omega), cond_true]
        rw [if_pos (by omega), if_pos (by omega), if_pos (by omega)])]
      rw [hw.trans (if_neg (fun q => q.1 c1))]
      exact ih
    · have c1' : ((nth c.All k).Op != 10) = true := by rw [bne_iff_ne]; exact c1
      by_cases c2 : (nth c.All k).To = r
      · have c2' : ((nth c.All k).To == r) = true := beq_iff_eq.2 c2
        rw [loopN_at (y := .inr (.inl (k : Int))) (by
          simp only [ref27_Value_l_rd, Bool.cond_decide, Int.toNat_natCast, c1', c2', cond_true]
          rw [if_pos (by omega), if_pos (by omega), if_pos (by omega), if_pos (by omega), if_pos (by omega)])]
        rw [hw.trans (if_pos ⟨c1, c2⟩), if_pos (by omega)]
        rfl
      · have c2' : ((nth c.All k).To == r) = false := beq_eq_false_iff_ne.2 c2
        rw [loopN_at (y := .inl ((k : Int) - 1)) (by
          simp only [ref27_Value_l_rd, Bool.cond_decide, Int.toNat_natCast, c1', c2', cond_true, cond_false, inK_i64 (show -9223372036854775808 ≤ (k : Int) - 1 by omega) (by omega)]
          rw [if_pos (by omega), if_pos (by omega), if_pos (by omega), if_pos (by omega), if_pos (by omega)])]
        rw [hw.trans (if_neg (fun q => c2 q.2))]
        exact ih
theorem ref27_Value_eq {c : Code} (hN : c.All.length ≤ 100000) {k : Nat} (hk : k ≤ c.All.length) (r : Int) : ref27_Value c (k : Int) r = some (Wl c.All r k) := by
  unfold ref27_Value ref27_Value_l
  rw [inK_i64 (by omega) (by omega), cond_true, Value_l_eq hN k FU hk (by rw [FU_eq]; omega), Option.bind_some]
  have := Wl_bd c.All r k
  by_cases q : 0 ≤ Wl c.All r k
  · rw [if_pos q]; rfl
  · rw [if_neg q]
    show some (-1) = _
    rw [show Wl c.All r k = -1 by omega]
theorem rv_iff {l : List Instr} {m v : Nat} : (v : Int) ∈ rv l m ↔ (nth l v).To ∈ rgs (nth l m) ∧ Wl l (nth l v).To m = (v : Int) := by
  unfold rv
  rw [List.mem_map]
  constructor
  · rintro ⟨r, h1, h2⟩
    obtain ⟨_, _, e⟩ := Wl_of h2
    rw [e]; exact ⟨h1, h2⟩
  · rintro ⟨h1, h2⟩; exact ⟨_, h1, h2⟩
theorem alive_l_eq {c : Code} (h : RC c) {v : Nat} (hv : v < c.All.length) : ∀ (k i n : Nat), i + k = c.All.length → k < n →
    loopN (fun (σ : Int) => ref27_alive_l_rd c (v : Int) σ) n (i : Int) = some (if (List.range' i k).any (fun m => decide ((v : Int) ∈ rv c.All m)) = true then .inl () else .inr ())
  | k, i, 0, _, h => by omega
  | 0, i, n + 1, hi, _ => by
    rw [loopN_at (y := .inr (.inr ())) (by
      simp only [ref27_alive_l_rd, Bool.cond_decide]
      rw [if_neg (by omega)])]
    rfl
  | k + 1, i, n + 1, hi, hn => by
    have hN := h.len
    obtain ⟨q1, q2, _⟩ := insB_to (h.ins i (by omega))
    rw [List.range'_succ, List.any_cons]
    by_cases c1 : (nth c.All v).To ∈ rgs (nth c.All i)
    · by_cases c2 : Wl c.All (nth c.All v).To i = (v : Int)
      · have c2' : (Wl c.All (nth c.All v).To i == (v : Int)) = true := beq_iff_eq.2 c2
        rw [loopN_at (y := .inr (.inl ())) (by
          simp only [ref27_alive_l_rd, Bool.cond_decide, Int.toNat_natCast, ref27_reads_eq q1 q2, Option.bind_some, ref27_Value_eq hN (show i ≤ c.All.length by omega), c2', cond_true]
          rw [if_pos (by omega), if_pos (by omega), if_pos (by omega), if_pos (by omega), if_pos hv, if_pos c1, if_pos (by omega), if_pos hv])]
        rw [decide_eq_true (rv_iff.2 ⟨c1, c2⟩), Bool.true_or, if_pos rfl]
        rfl
      · have c2' : (Wl c.All (nth c.All v).To i == (v : Int)) = false := beq_eq_false_iff_ne.2 c2
        rw [loopN_at (y := .inl ((i : Int) + 1)) (by
          simp only [ref27_alive_l_rd, Bool.cond_decide, Int.toNat_natCast, ref27_reads_eq q1 q2, Option.bind_some, ref27_Value_eq hN (show i ≤ c.All.length by omega), c2', cond_false, cond_true, inK_i64 (show -9223372036854775808 ≤ (i : Int) + 1 by omega) (by omega)]
          rw [if_pos (by omega), if_pos (by omega), if_pos (by omega), if_pos (by omega), if_pos hv, if_pos c1, if_pos (by omega), if_pos hv])]
        rw [decide_eq_false (fun q => c2 (rv_iff.1 q).2), Bool.false_or]
        exact alive_l_eq h hv k (i + 1) n (by omega) (by omega)
    · rw [loopN_at (y := .inl ((i : Int) + 1)) (by
        simp only [ref27_alive_l_rd, Bool.cond_decide, Int.toNat_natCast, ref27_reads_eq q1 q2, Option.bind_some, cond_false, cond_true, inK_i64 (show -9223372036854775808 ≤ (i : Int) + 1 by omega) (by omega)]
        rw [if_pos (by omega), if_pos (by omega), if_pos (by omega), if_pos (by omega), if_pos hv, if_neg c1])]
      rw [decide_eq_false (fun q => c1 (rv_iff.1 q).1), Bool.false_or]
      exact alive_l_eq h hv k (i + 1) n (by omega) (by omega)
theorem ref27_alive_eq {c : Code} (h : RC c) {v n : Nat} (hv : v ≤ n) (hn : n < c.All.length) : ref27_alive c (v : Int) (n : Int) = some (alvB c.All n v) := by
  have hN := h.len
  unfold ref27_alive alvB
  simp only [Bool.cond_decide, Int.toNat_natCast]
  rw [if_neg (by omega), if_pos (by omega), if_pos (by omega)]
  by_cases c1 : (nth c.All v).Op = 10
  · rw [show ((nth c.All v).Op == 10) = true from beq_iff_eq.2 c1, cond_true, decide_eq_false (fun q => q c1), Bool.false_and]
  · rw [show ((nth c.All v).Op == 10) = false from beq_eq_false_iff_ne.2 c1, cond_false, decide_eq_true c1, Bool.true_and]
    by_cases c2 : v = n
    · rw [show ((v : Int) == (n : Int)) = true from beq_iff_eq.2 (by omega), cond_true, decide_eq_true c2, Bool.true_or]
    · rw [show ((v : Int) == (n : Int)) = false from beq_eq_false_iff_ne.2 (by omega), cond_false, decide_eq_false c2, Bool.false_or, decide_eq_true (show v < n by omega), Bool.true_and, inK_i64 (by omega) (by omega), cond_true]
      unfold ref27_alive_l
      have := alive_l_eq h (show v < c.All.length by omega) (c.All.length - (n + 1)) (n + 1) FU (by omega) (by rw [FU_eq]; omega)
      rw [show (n : Int) + 1 = ((n + 1 : Nat) : Int) by omega, this, Option.bind_some]
      have hg := La_gt (l := c.All) hv c.All.length
      by_cases q : (List.range' (n + 1) (c.All.length - (n + 1))).any (fun m => decide ((v : Int) ∈ rv c.All m)) = true
      · rw [if_pos q]
        rw [List.any_eq_true] at q
        obtain ⟨m, h1, h2⟩ := q
        rw [List.mem_range'_1] at h1
        rw [decide_eq_true (hg.2 ⟨m, by omega, by omega, of_decide_eq_true h2⟩)]
        rfl
      · rw [if_neg q, decide_eq_false (fun w => ?_)]
        · rfl
        · obtain ⟨m, h1, h2, h3⟩ := hg.1 w
          refine q (List.any_eq_true.2 ⟨m, ?_, decide_eq_true h3⟩)
          rw [List.mem_range'_1]; omega
theorem Live_l2_eq {c : Code} (h : RC c) {n : Nat} (hn : n < c.All.length) (most : Int) : ref27_Live_l_2 c most n 0 0 = some (cntA c.All n) := by
  have hN := h.len
  have hle : ∀ v, ((List.range v).filter (alvB c.All n)).length ≤ v := fun v => Nat.le_trans (List.length_filter_le _ _) (by rw [List.length_range]; omega)
  unfold ref27_Live_l_2
  exact loop_run (round := fun (σ : Nat × Nat) => ref27_Live_l_2_rd c most n σ.1 σ.2) (fun v => (((List.range v).filter (alvB c.All n)).length, v)) (n + 1) (r := cntA c.All n) (fun v hv => by
    have h1 := ref27_alive_eq h (show v ≤ n by omega) hn
    have h2 := hle v
    simp only [ref27_Live_l_2_rd, Bool.cond_decide, h1, Option.bind_some]
    rw [if_pos (by omega)]
    rw [List.range_succ, List.filter_append, List.length_append]
    cases q : alvB c.All n v with
    | true =>
      simp only [cond_true, inK_i64 (show -9223372036854775808 ≤ (((List.range v).filter (alvB c.All n)).length : Int) + 1 by omega) (by omega), inK_i64 (show -9223372036854775808 ≤ (v : Int) + 1 by omega) (by omega)]
      simp [q]
    | false =>
      simp only [cond_false, cond_true, inK_i64 (show -9223372036854775808 ≤ (v : Int) + 1 by omega) (by omega)]
      simp [q]) (by
    simp only [ref27_Live_l_2_rd, Bool.cond_decide]
    rw [if_neg (by omega)]
    rfl) (by simp only [FU]; omega)
theorem ref27_Live_eq {c : Code} (hx : ∀ x, x ∈ c.All → okL 64 x.Num) : ref27_Live c = some (if rightB c = true then ((mxA c.All c.All.length : Nat) : Int) else 0) := by
  unfold ref27_Live
  rw [ref25_Right_eq hx, Option.bind_some]
  cases hb : rightB c with
  | false => rfl
  | true =>
    have h := rightB_iff.1 hb
    have hN := h.len
    rw [Bool.not_true, cond_false, if_pos rfl]
    unfold ref27_Live_l
    have := loop_run (round := fun (σ : Int × Nat) => ref27_Live_l_rd c σ.1 σ.2) (fun n => (((mxA c.All n : Nat) : Int), n)) c.All.length (r := ((mxA c.All c.All.length : Nat) : Int)) (fun n hn => by
      have h1 := Live_l2_eq h hn ((mxA c.All n : Nat) : Int)
      simp only [ref27_Live_l_rd, Bool.cond_decide, h1, Option.bind_some, inK_i64 (show -9223372036854775808 ≤ (n : Int) + 1 by omega) (by omega), cond_true]
      rw [if_pos (by omega)]
      have e : ((mxA c.All (n + 1) : Nat) : Int) = if ((cntA c.All n : Nat) : Int) > ((mxA c.All n : Nat) : Int) then ((cntA c.All n : Nat) : Int) else ((mxA c.All n : Nat) : Int) := by
        show ((max (mxA c.All n) (cntA c.All n) : Nat) : Int) = _
        split <;> omega
      rw [e]) (by
      simp only [ref27_Live_l_rd, Bool.cond_decide]
      rw [if_neg (by omega)]) (by simp only [FU]; omega)
    rw [show ((0 : Int), 0) = (((mxA c.All 0 : Nat) : Int), 0) from rfl, this]
    rfl
end Go.Ab.M
end

section
/-
  PLAIN LAW: WHAT THE PROGRAM ASSIGNS.
-/
namespace Go.Ab.M
open Go.Proofs Go.Ab
set_option linter.unusedVariables false
set_option linter.unusedSimpArgs false

abbrev keysR (m : List (Int × Int)) : List Int := m.map (·.1)
theorem mput_new : ∀ (m : List (Int × Int)) (k v : Int), k ∉ keysR m → mput m k v = m ++ [(k, v)]
  | [], k, v, _ => rfl
  | x :: m, k, v, h => by
    have h : k ∉ x.1 :: keysR m := h
    rw [List.mem_cons, not_or] at h
    simp only [mput]
    rw [if_neg (Ne.symm h.1), mput_new m k v h.2]
    rfl
theorem idx_some : ∀ (ks : List Int) (k : Int), (idxK ks k).isSome = decide (k ∈ ks)
  | [], k => by simp [idxK]
  | a :: ks, k => by
    have ih := idx_some ks k
    unfold idxK
    by_cases c : a = k
    · rw [if_pos c, decide_eq_true (List.mem_cons.2 (.inl c.symm))]; rfl
    · rw [if_neg c]
      have e : decide (k ∈ a :: ks) = decide (k ∈ ks) := decide_eq_decide.2 ⟨fun h => (List.mem_cons.1 h).resolve_left (Ne.symm c), List.mem_cons_of_mem _⟩
      rw [e, ← ih]
      cases idxK ks k <;> rfl
theorem mhas_eq (m : List (Int × Int)) (k : Int) : mhas m k = decide (k ∈ keysR m) := idx_some _ _
theorem cast_range_nodup (M : Nat) : ((List.range M).map fun r : Nat => (r : Int)).Nodup :=
  List.Pairwise.map _ (fun a b h c => h (by omega)) List.nodup_range
theorem keys_le {m : List (Int × Int)} {M : Nat} (hn : (keysR m).Nodup) (hb : ∀ k, k ∈ keysR m → 0 ≤ k ∧ k < (M : Int)) : m.length ≤ M := by
  have := hn.length_le_of_subset (l₂ := (List.range M).map fun r : Nat => (r : Int)) fun k hk => by
    have := hb k hk
    exact List.mem_map.2 ⟨k.toNat, List.mem_range.2 (by omega), by omega⟩
  simpa using this
theorem take_l_none {m : List (Int × Int)} {M : Nat} (hM : M ≤ 200000) (v : Int) (hall : ∀ r, r < M → (r : Int) ∈ keysR m) : regs_pool_take_l (M : Int) m v 0 = some (.inr ()) := by
  unfold regs_pool_take_l
  refine loop_run (round := fun σ : Nat => regs_pool_take_l_rd (M : Int) m v σ) (fun i => i) M (fun i hi => ?_) ?_ (by simp only [FU]; omega)
  · have := decide_eq_true (hall i hi)
    simp only [regs_pool_take_l_rd, Bool.cond_decide, mhas_eq, this, Bool.not_true, cond_false, inK_i64 (show -9223372036854775808 ≤ (i : Int) + 1 by omega) (by omega), cond_true]
    rw [if_pos (by omega)]
  · simp only [regs_pool_take_l_rd, Bool.cond_decide]
    rw [if_neg (by omega)]
theorem take_l_some {m : List (Int × Int)} {M : Nat} (hM : M ≤ 200000) (v : Int) {j : Nat} (hj : j < M) (hjf : (j : Int) ∉ keysR m) (hjb : ∀ r, r < j → (r : Int) ∈ keysR m) : regs_pool_take_l (M : Int) m v 0 = some (.inl (j, mput m (j : Int) v)) := by
  unfold regs_pool_take_l
  refine loop_run (round := fun σ : Nat => regs_pool_take_l_rd (M : Int) m v σ) (fun i => i) j (fun i hi => ?_) ?_ (by simp only [FU]; omega)
  · have := decide_eq_true (hjb i hi)
    simp only [regs_pool_take_l_rd, Bool.cond_decide, mhas_eq, this, Bool.not_true, cond_false, inK_i64 (show -9223372036854775808 ≤ (i : Int) + 1 by omega) (by omega), cond_true]
    rw [if_pos (by omega)]
  · simp only [regs_pool_take_l_rd, Bool.cond_decide, mhas_eq, decide_eq_false hjf, Bool.not_false, cond_true]
    rw [if_pos (by omega)]
theorem sub_back {M : Nat} : (M : Int) + 1 - 1 = (M : Int) := Int.add_sub_cancel _ _
theorem nat_lo {M : Nat} (hM : M ≤ 200000) : -9223372036854775808 ≤ (M : Int) := by omega
theorem nat_hi {M : Nat} (hM : M ≤ 200000) : (M : Int) ≤ 9223372036854775807 := by omega
theorem inK_nat {M : Nat} (hM : M ≤ 200000) : inK .i64 (M : Int) = true := inK_i64 (nat_lo hM) (nat_hi hM)
theorem inK_back {M : Nat} (hM : M ≤ 200000) : inK .i64 ((M : Int) + 1 - 1) = true := (congrArg (inK .i64) sub_back).trans (inK_nat hM)
theorem bind_r {α β γ : Type} {o : Option (α ⊕ β)} {b : β} (h : o = some (.inr b)) (f : α → Option γ) (g : β → Option γ) : (o.bind fun y => caseS y f g) = g b := by rw [h]; rfl
theorem bif2 {γ : Type} {a b : Bool} (ha : a = true) (hb : b = true) (x : Option γ) : (bif a then bif b then x else none else none) = x := by rw [ha, hb]; rfl
theorem take_last {m : List (Int × Int)} {M : Nat} (v : Int) (h : regs_pool_take_l (M : Int) m v 0 = some (.inr ())) (i1 : inK .i64 ((M : Int) + 1) = true) (i2 : inK .i64 ((M : Int) + 1 - 1) = true) :
    regs_pool_take (M : Int) m v = some ((M : Int) + 1 - 1, (M : Int) + 1, mput m (M : Int) v) :=
  (bind_r h _ _).trans (bif2 i1 i2 _)
theorem take_tidy {M : Nat} {v : Int} {m : List (Int × Int)} (hnot : mput m (M : Int) v = m ++ [((M : Int), v)]) : (some ((M : Int) + 1 - 1, (M : Int) + 1, mput m (M : Int) v)) = some ((M : Int), ((M + 1 : Nat) : Int), m ++ [((M : Int), v)]) := by
  have e1 : (M : Int) + 1 - 1 = (M : Int) := by omega
  have e2 : (M : Int) + 1 = ((M + 1 : Nat) : Int) := by omega
  rw [hnot, e1, e2]
theorem inK_next {M : Nat} (hM : M ≤ 200000) : inK .i64 ((M : Int) + 1) = true := inK_i64 (by omega) (by omega)
theorem take_none {m : List (Int × Int)} {M : Nat} (hM : M ≤ 200000) (v : Int) (hall : ∀ r, r < M → (r : Int) ∈ keysR m) (hnot : (M : Int) ∉ keysR m) : regs_pool_take (M : Int) m v = some ((M : Int), ((M + 1 : Nat) : Int), m ++ [((M : Int), v)]) :=
  (take_last v (take_l_none hM v hall) (inK_next hM) (inK_back hM)).trans (take_tidy (mput_new m _ v hnot))
theorem take_some {m : List (Int × Int)} {M : Nat} (hM : M ≤ 200000) (v : Int) {j : Nat} (hj : j < M) (hjf : (j : Int) ∉ keysR m) (hjb : ∀ r, r < j → (r : Int) ∈ keysR m) : regs_pool_take (M : Int) m v = some ((j : Int), (M : Int), m ++ [((j : Int), v)]) := by
  unfold regs_pool_take
  rw [take_l_some hM v hj hjf hjb, Option.bind_some]
  show some ((j : Int), (M : Int), mput m (j : Int) v) = _
  rw [mput_new m _ v hjf]
theorem take_eq {m : List (Int × Int)} {M : Nat} (hM : M ≤ 200000) (hn : (keysR m).Nodup) (hb : ∀ k, k ∈ keysR m → 0 ≤ k ∧ k < (M : Int)) (v : Int) :
    ∃ q M' : Nat, regs_pool_take (M : Int) m v = some ((q : Int), (M' : Int), m ++ [((q : Int), v)]) ∧ (q : Int) ∉ keysR m ∧ q < M' ∧ M' = max M (m.length + 1) := by
  by_cases hall : (List.range M).all (fun r => decide ((r : Int) ∈ keysR m)) = true
  · rw [List.all_eq_true] at hall
    have hle : M ≤ m.length := by
      have := (cast_range_nodup M).length_le_of_subset (l₂ := keysR m) fun k hk => by
        obtain ⟨r, hr, rfl⟩ := List.mem_map.1 hk
        exact of_decide_eq_true (hall r hr)
      simpa using this
    have hge := keys_le hn hb
    have hnot : ((M : Nat) : Int) ∉ keysR m := fun q => by have := hb _ q; omega
    exact ⟨M, M + 1, take_none hM v (fun r hr => of_decide_eq_true (hall r (List.mem_range.2 hr))) hnot, hnot, by omega, by omega⟩
  · obtain ⟨j, hj, hjf, hjb⟩ := all_find M hall
    rw [decide_eq_false_iff_not] at hjf
    have hle : m.length + 1 ≤ M := by
      have hnd : ((j : Int) :: keysR m).Nodup := List.nodup_cons.2 ⟨hjf, hn⟩
      have := hnd.length_le_of_subset (l₂ := (List.range M).map fun r : Nat => (r : Int)) fun k hk => by
        rcases List.mem_cons.1 hk with rfl | hk
        · exact List.mem_map.2 ⟨j, List.mem_range.2 hj, rfl⟩
        · have := hb k hk
          exact List.mem_map.2 ⟨k.toNat, List.mem_range.2 (by omega), by omega⟩
      simpa using this
    exact ⟨j, M, take_some hM v hj hjf (fun r hr => of_decide_eq_true (hjb r hr)), hjf, hj, by omega⟩
/-- what is so while registers are given -/
structure AS (c : Code) (i : Nat) (has : List (Int × Int)) (M : Nat) (out : List Instr) (names : List (Int × Int)) : Prop where
  keys : (keysR has).Nodup
  kb : ∀ x, x ∈ has → ∃ q v : Nat, x = ((q : Int), (v : Int)) ∧ q < M ∧ v < i ∧ (nth c.All v).Op ≠ 10 ∧ (i : Int) ≤ La c.All c.All.length v ∧ (nth out v).To = (q : Int)
  full : ∀ v : Nat, v < i → (nth c.All v).Op ≠ 10 → (i : Int) ≤ La c.All c.All.length v → ((nth out v).To, (v : Int)) ∈ has
  reg : ∀ x, x ∈ has → Wl out x.1 i = x.2
  m : M = mxA c.All i
  olen : out.length = i
  op : ∀ j, j < i → (nth out j).Op = (nth c.All j).Op ∧ (nth out j).Num = (nth c.All j).Num
  to : ∀ j, j < i → if (nth c.All j).Op = 10 then (nth out j).To = (nth c.All j).To else 0 ≤ (nth out j).To ∧ (nth out j).To < (M : Int)
  ab : ∀ j, j < i → (opk (nth c.All j).Op = 0 → (nth out j).A_ = (nth c.All j).A_) ∧ (opk (nth c.All j).Op < 2 → (nth out j).B_ = (nth c.All j).B_)
  rvs : ∀ j, j < i → rv out j = rv c.All j
  nm : ∀ r, 0 ≤ Wl c.All r i → mget names r 0 = (nth out (Wl c.All r i).toNat).To
theorem AS.kin {c : Code} {i M : Nat} {has names : List (Int × Int)} {out : List Instr} (h : AS c i has M out names) : ∀ k, k ∈ keysR has → 0 ≤ k ∧ k < (M : Int) := fun k hk => by
  obtain ⟨x, hx, rfl⟩ := List.mem_map.1 hk
  obtain ⟨q, v, rfl, h1, _⟩ := h.kb x hx
  exact ⟨by simp, by simp; exact h1⟩
/-- values whose life goes on behind instruction i -/
def liv (c : Code) (i : Nat) (x : Int × Int) : Bool := decide ((i : Int) < La c.All c.All.length x.2.toNat)
theorem release_eq {c : Code} {i : Nat} {lst : List Int} (hl : lst.length = c.All.length) (hv : ∀ v, v < c.All.length → nth lst v = La c.All c.All.length v) {has : List (Int × Int)} (hk : (keysR has).Nodup)
    (hb : ∀ x, x ∈ has → 0 ≤ x.2 ∧ x.2.toNat < c.All.length) (many : Int) : regs_release many has lst (i : Int) = some (has.filter (liv c i)) := by
  unfold regs_release
  have h1 : (has.all fun x => decide (0 ≤ x.2) && decide (x.2.toNat < lst.length)) = true := by
    rw [List.all_eq_true]
    intro x hx
    rw [decide_eq_true (hb x hx).1, decide_eq_true (by rw [hl]; exact (hb x hx).2)]; rfl
  rw [h1, decide_eq_true hk, Bool.true_and, cond_true]
  congr 1
  refine List.filter_congr fun x hx => ?_
  have := hv x.2.toNat (hb x hx).2
  unfold liv
  rw [← this]
  rfl
theorem cntA_eq {c : Code} {i : Nat} (hi : i < c.All.length) {has names : List (Int × Int)} {M : Nat} {out : List Instr} (h : AS c i has M out names) :
    cntA c.All i = (has.filter (liv c i)).length + if (nth c.All i).Op = 10 then 0 else 1 := by
  unfold cntA
  rw [List.range_succ, List.filter_append, List.length_append]
  have e1 : (List.filter (alvB c.All i) [i]).length = if (nth c.All i).Op = 10 then 0 else 1 := by
    have e2 : alvB c.All i i = decide ((nth c.All i).Op ≠ 10) := by
      unfold alvB
      rw [decide_eq_true (rfl : i = i), Bool.true_or, Bool.and_true]
    rw [List.filter_cons, List.filter_nil, e2]
    by_cases c1 : (nth c.All i).Op = 10
    · rw [decide_eq_false (fun q => q c1), if_neg (by decide), if_pos c1]; rfl
    · rw [decide_eq_true c1, if_pos rfl, if_neg c1]; rfl
  rw [e1]
  congr 1
  have hperm : (((List.range i).filter (alvB c.All i)).map fun v : Nat => (v : Int)).Perm ((has.filter (liv c i)).map (·.2)) := by
    refine (List.perm_ext_iff_of_nodup (List.Pairwise.map _ (fun a b h c => h (by omega)) (List.nodup_range.filter _)) ?_).2 fun a => ?_
    · have hp : (has.filter (liv c i)).Pairwise (fun x y => x.1 ≠ y.1) := List.Pairwise.sublist List.filter_sublist (List.pairwise_map.1 h.keys)
      refine List.pairwise_map.2 (hp.imp_of_mem fun {x y} hx hy hne he => hne ?_)
      obtain ⟨q, v, rfl, _, _, _, _, t⟩ := h.kb x (List.mem_filter.1 hx).1
      obtain ⟨q', v', rfl, _, _, _, _, t'⟩ := h.kb y (List.mem_filter.1 hy).1
      simp only at he ⊢
      have : v = v' := by omega
      subst this
      exact t.symm.trans t'
    · rw [List.mem_map, List.mem_map]
      constructor
      · rintro ⟨v, hv, rfl⟩
        rw [List.mem_filter, List.mem_range] at hv
        obtain ⟨h1, h2⟩ := hv
        unfold alvB at h2
        rw [Bool.and_eq_true, decide_eq_true_eq, decide_eq_false (show ¬ v = i by omega), Bool.false_or, decide_eq_true h1, Bool.true_and, decide_eq_true_eq] at h2
        exact ⟨((nth out v).To, (v : Int)), List.mem_filter.2 ⟨h.full v h1 h2.1 (by omega), by unfold liv; rw [decide_eq_true_eq]; simp only [Int.toNat_natCast]; exact h2.2⟩, rfl⟩
      · rintro ⟨x, hx, rfl⟩
        obtain ⟨hx1, hx2⟩ := List.mem_filter.1 hx
        obtain ⟨q, v, rfl, k1, k2, k3, k4, k5⟩ := h.kb x hx1
        unfold liv at hx2
        rw [decide_eq_true_eq] at hx2
        simp only [Int.toNat_natCast] at hx2
        refine ⟨v, List.mem_filter.2 ⟨List.mem_range.2 k2, ?_⟩, rfl⟩
        unfold alvB
        rw [decide_eq_true k3, decide_eq_false (show ¬ v = i by omega), decide_eq_true k2, decide_eq_true hx2]; rfl
  have := hperm.length_eq
  simpa using this
/-- an instruction with other registers -/
def renI (names : List (Int × Int)) (x : Instr) (to : Int) : Instr := ⟨x.Op, to, if 1 ≤ opk x.Op then mget names x.A_ 0 else x.A_, if opk x.Op = 2 then mget names x.B_ 0 else x.B_, x.Num⟩
theorem rgs_ren (names : List (Int × Int)) (x : Instr) (to : Int) : rgs (renI names x to) = (rgs x).map fun r => mget names r 0 := by
  unfold rgs renI
  simp only
  have : opk x.Op ≤ 2 := by unfold opk; split <;> (try split) <;> omega
  by_cases c1 : opk x.Op = 2
  · rw [if_pos c1, if_pos c1, if_pos (by omega), if_pos c1]; rfl
  · rw [if_neg c1, if_neg c1]
    by_cases c2 : opk x.Op = 1
    · rw [if_pos c2, if_pos c2, if_pos (by omega)]; rfl
    · rw [if_neg c2, if_neg c2]; rfl
theorem nth_ap {α : Type} [Inhabited α] {l m : List α} {i : Nat} (h : i < l.length) : nth (l ++ m) i = nth l i := by
  simp only [nth, List.getD_eq_getElem?_getD, List.getElem?_append_left h]
theorem nth_sn {α : Type} [Inhabited α] {l : List α} {x : α} {i : Nat} (h : l.length = i) : nth (l ++ [x]) i = x := by
  subst h
  simp [nth, List.getD_eq_getElem?_getD]
theorem rv_congr {l m : List Instr} {j : Nat} (h : ∀ k, k ≤ j → nth l k = nth m k) : rv l j = rv m j := by
  unfold rv
  rw [h j (Nat.le_refl _)]
  exact List.map_congr_left fun r _ => Wl_congr fun k hk => h k (by omega)
theorem AS.reads {c : Code} (hc : RC c) {i : Nat} (hi : i < c.All.length) {has names : List (Int × Int)} {M : Nat} {out : List Instr} (h : AS c i has M out names) {r : Int} (hr : r ∈ rgs (nth c.All i)) :
    Wl out (mget names r 0) i = Wl c.All r i := by
  have h0 := hc.read hi hr
  obtain ⟨v, hv⟩ : ∃ v : Nat, Wl c.All r i = (v : Int) := ⟨(Wl c.All r i).toNat, by omega⟩
  obtain ⟨k1, k2, k3⟩ := Wl_of hv
  rw [h.nm r h0, hv, Int.toNat_natCast]
  have hla : (i : Int) ≤ La c.All c.All.length v := by
    have := (La_gt (l := c.All) (n := i - 1) (v := v) (by omega) c.All.length).2 ⟨i, by omega, hi, List.mem_map.2 ⟨r, hr, hv⟩⟩
    omega
  exact h.reg _ (h.full v k1 k2 hla)
theorem AS.tell {c : Code} (hc : RC c) {i : Nat} (hi : i < c.All.length) {has names : List (Int × Int)} {M : Nat} {out : List Instr} (h : AS c i has M out names) (ht : (nth c.All i).Op = 10) :
    AS c (i + 1) (has.filter (liv c i)) M (out ++ [renI names (nth c.All i) (nth c.All i).To]) names := by
  have hold : ∀ k, k < i → nth (out ++ [renI names (nth c.All i) (nth c.All i).To]) k = nth out k := fun k hk => nth_ap (by rw [h.olen]; exact hk)
  have hnew : nth (out ++ [renI names (nth c.All i) (nth c.All i).To]) i = renI names (nth c.All i) (nth c.All i).To := nth_sn h.olen
  have hw : ∀ r, Wl (out ++ [renI names (nth c.All i) (nth c.All i).To]) r i = Wl out r i := fun r => Wl_congr hold
  have hw2 : ∀ r, Wl (out ++ [renI names (nth c.All i) (nth c.All i).To]) r (i + 1) = Wl out r i := fun r => by
    rw [Wl, hnew, if_neg (fun q => q.1 ht)]; exact hw r
  have hwc : ∀ r, Wl c.All r (i + 1) = Wl c.All r i := fun r => by
    rw [Wl, if_neg (fun q => q.1 ht)]
  refine ⟨List.Pairwise.sublist (List.Sublist.map _ List.filter_sublist) h.keys, fun x hx => ?_, fun v hv h1 h2 => ?_, fun x hx => ?_, ?_, ?_, fun j hj => ?_, fun j hj => ?_, fun j hj => ?_, fun j hj => ?_, fun r hr => ?_⟩
  · obtain ⟨hx1, hx2⟩ := List.mem_filter.1 hx
    obtain ⟨q, v, rfl, k1, k2, k3, k4, k5⟩ := h.kb x hx1
    unfold liv at hx2
    rw [decide_eq_true_eq] at hx2
    simp only [Int.toNat_natCast] at hx2
    exact ⟨q, v, rfl, k1, by omega, k3, by omega, by rw [hold v k2]; exact k5⟩
  · have hvi : v < i := by
      rcases Nat.lt_or_ge v i with g | g
      · exact g
      · have : v = i := by omega
        subst this
        exact absurd ht h1
    rw [hold v hvi]
    refine List.mem_filter.2 ⟨h.full v hvi h1 (by omega), ?_⟩
    unfold liv
    rw [decide_eq_true_eq]
    simp only [Int.toNat_natCast]
    omega
  · rw [hw2]
    exact h.reg x (List.mem_filter.1 hx).1
  · have h1 := cntA_eq hi h
    rw [if_pos ht] at h1
    have h2 : (has.filter (liv c i)).length ≤ has.length := List.length_filter_le _ _
    have h3 := keys_le h.keys h.kin
    show M = max (mxA c.All i) (cntA c.All i)
    have := h.m
    omega
  · rw [List.length_append, h.olen]; rfl
  · rcases Nat.lt_or_ge j i with g | g
    · rw [hold j g]; exact h.op j g
    · have : j = i := by omega
      subst this
      rw [hnew]; exact ⟨rfl, rfl⟩
  · rcases Nat.lt_or_ge j i with g | g
    · rw [hold j g]; exact h.to j g
    · have : j = i := by omega
      subst this
      rw [hnew, if_pos ht]; rfl
  · rcases Nat.lt_or_ge j i with g | g
    · rw [hold j g]; exact h.ab j g
    · have : j = i := by omega
      subst this
      rw [hnew]
      unfold renI
      exact ⟨fun q => by simp only; rw [if_neg (by omega)], fun q => by simp only; rw [if_neg (by omega)]⟩
  · rcases Nat.lt_or_ge j i with g | g
    · rw [rv_congr (m := out) fun k hk => hold k (by omega)]; exact h.rvs j g
    · have : j = i := by omega
      subst this
      unfold rv
      rw [hnew, rgs_ren, List.map_map]
      exact List.map_congr_left fun r hr => (hw _).trans (h.reads hc hi hr)
  · rw [hwc] at hr ⊢
    rw [h.nm r hr]
    have := (Wl_bd c.All r i).2
    rw [hold _ (by omega)]
theorem AS.write {c : Code} (hc : RC c) {i : Nat} (hi : i < c.All.length) {has names : List (Int × Int)} {M : Nat} {out : List Instr} (h : AS c i has M out names) (ht : (nth c.All i).Op ≠ 10) {q M' : Nat}
    (hq : (q : Int) ∉ keysR (has.filter (liv c i))) (hqM : q < M') (hM' : M' = max M ((has.filter (liv c i)).length + 1)) :
    AS c (i + 1) ((has.filter (liv c i) ++ [((q : Int), (i : Int))]).filter (liv c i)) M' (out ++ [renI names (nth c.All i) (q : Int)]) (mput names (nth c.All i).To (q : Int)) := by
  have hold : ∀ k, k < i → nth (out ++ [renI names (nth c.All i) (q : Int)]) k = nth out k := fun k hk => nth_ap (by rw [h.olen]; exact hk)
  have hnew : nth (out ++ [renI names (nth c.All i) (q : Int)]) i = renI names (nth c.All i) (q : Int) := nth_sn h.olen
  have hw : ∀ r, Wl (out ++ [renI names (nth c.All i) (q : Int)]) r i = Wl out r i := fun r => Wl_congr hold
  have hw2 : ∀ r, Wl (out ++ [renI names (nth c.All i) (q : Int)]) r (i + 1) = if (q : Int) = r then (i : Int) else Wl out r i := fun r => by
    rw [Wl, hnew, hw]
    by_cases e : (q : Int) = r
    · rw [if_pos e, if_pos ⟨ht, e⟩]
    · rw [if_neg e, if_neg (fun w => e w.2)]
  have hwc : ∀ r, Wl c.All r (i + 1) = if (nth c.All i).To = r then (i : Int) else Wl c.All r i := fun r => by
    rw [Wl]
    by_cases e : (nth c.All i).To = r
    · rw [if_pos e, if_pos ⟨ht, e⟩]
    · rw [if_neg e, if_neg (fun w => e w.2)]
  have hmem : ∀ x, x ∈ (has.filter (liv c i) ++ [((q : Int), (i : Int))]).filter (liv c i) → (x ∈ has.filter (liv c i) ∨ x = ((q : Int), (i : Int))) ∧ liv c i x = true := fun x hx => by
    obtain ⟨h1, h2⟩ := List.mem_filter.1 hx
    exact ⟨(List.mem_append.1 h1).imp id fun e => List.mem_singleton.1 e, h2⟩
  refine ⟨List.Pairwise.sublist (List.Sublist.map _ List.filter_sublist) ?_, fun x hx => ?_, fun v hv h1 h2 => ?_, fun x hx => ?_, ?_, ?_, fun j hj => ?_, fun j hj => ?_, fun j hj => ?_, fun j hj => ?_, fun r hr => ?_⟩
  · rw [List.map_append, List.pairwise_append]
    refine ⟨List.Pairwise.sublist (List.Sublist.map _ List.filter_sublist) h.keys, List.pairwise_singleton _ _, fun a ha b hb => ?_⟩
    rw [List.map_cons, List.map_nil, List.mem_singleton] at hb
    subst hb
    exact fun e => hq (by have e' : a = (q : Int) := e; rw [← e']; exact ha)
  · obtain ⟨hx1, hx2⟩ := hmem x hx
    rcases hx1 with hx1 | rfl
    · obtain ⟨q', v, rfl, k1, k2, k3, k4, k5⟩ := h.kb x (List.mem_filter.1 hx1).1
      unfold liv at hx2
      rw [decide_eq_true_eq] at hx2
      simp only [Int.toNat_natCast] at hx2
      exact ⟨q', v, rfl, by omega, by omega, k3, by omega, by rw [hold v k2]; exact k5⟩
    · unfold liv at hx2
      rw [decide_eq_true_eq] at hx2
      simp only [Int.toNat_natCast] at hx2
      exact ⟨q, i, rfl, hqM, by omega, ht, by omega, by rw [hnew]; rfl⟩
  · have hl : liv c i ((nth (out ++ [renI names (nth c.All i) (q : Int)]) v).To, (v : Int)) = true := by
      unfold liv
      rw [decide_eq_true_eq]
      simp only [Int.toNat_natCast]
      omega
    refine List.mem_filter.2 ⟨List.mem_append.2 ?_, hl⟩
    rcases Nat.lt_or_ge v i with g | g
    · rw [hold v g] at hl ⊢
      exact .inl (List.mem_filter.2 ⟨h.full v g h1 (by omega), hl⟩)
    · have : v = i := by omega
      subst this
      rw [hnew]
      exact .inr (List.mem_singleton.2 rfl)
  · obtain ⟨hx1, hx2⟩ := hmem x hx
    rw [hw2]
    rcases hx1 with hx1 | rfl
    · rw [if_neg (fun e => hq (by rw [e]; exact List.mem_map_of_mem hx1))]
      exact h.reg x (List.mem_filter.1 hx1).1
    · rw [if_pos rfl]
  · have h1 := cntA_eq hi h
    rw [if_neg ht] at h1
    show M' = max (mxA c.All i) (cntA c.All i)
    rw [hM', h1, ← h.m]
  · rw [List.length_append, h.olen]; rfl
  · rcases Nat.lt_or_ge j i with g | g
    · rw [hold j g]; exact h.op j g
    · have : j = i := by omega
      subst this
      rw [hnew]; exact ⟨rfl, rfl⟩
  · rcases Nat.lt_or_ge j i with g | g
    · rw [hold j g]
      have := h.to j g
      split at this
      · rename_i e; rw [if_pos e]; exact this
      · rename_i e; rw [if_neg e]; exact ⟨this.1, by omega⟩
    · have : j = i := by omega
      subst this
      rw [hnew, if_neg ht]
      exact ⟨by show (0 : Int) ≤ (q : Int); omega, by show (q : Int) < _; omega⟩
  · rcases Nat.lt_or_ge j i with g | g
    · rw [hold j g]; exact h.ab j g
    · have : j = i := by omega
      subst this
      rw [hnew]
      unfold renI
      exact ⟨fun q => by simp only; rw [if_neg (by omega)], fun q => by simp only; rw [if_neg (by omega)]⟩
  · rcases Nat.lt_or_ge j i with g | g
    · rw [rv_congr (m := out) fun k hk => hold k (by omega)]; exact h.rvs j g
    · have : j = i := by omega
      subst this
      unfold rv
      rw [hnew, rgs_ren, List.map_map]
      exact List.map_congr_left fun r hr => (hw _).trans (h.reads hc hi hr)
  · rw [hwc] at hr ⊢
    rw [mgetW]
    by_cases e : (nth c.All i).To = r
    · rw [if_pos e, if_pos e, Int.toNat_natCast, hnew]; rfl
    · rw [if_neg e] at hr ⊢
      rw [if_neg e]
      rw [h.nm r hr]
      have := (Wl_bd c.All r i).2
      rw [hold _ (by omega)]
end Go.Ab.M
end

section
/-
  PLAIN LAW: WHAT IS ASSIGNED IS RIGHT, AND ALIKE.
-/
namespace Go.Ab.M
open Go.Proofs Go.Ab
set_option linter.unusedVariables false
set_option linter.unusedSimpArgs false

theorem opk_le (op : Int) : opk op ≤ 2 := by unfold opk; split <;> (try split) <;> omega
theorem rgs_len (x : Instr) : (rgs x).length = opk x.Op := by
  have := opk_le x.Op
  unfold rgs
  split
  · rename_i h; rw [h]; rfl
  · split
    · rename_i h; rw [h]; rfl
    · show 0 = _; omega
theorem ren2 {names : List (Int × Int)} {x : Instr} (h : opk x.Op = 2) (to : Int) : Instr.mk x.Op to (mget names x.A_ 0) (mget names x.B_ 0) x.Num = renI names x to := by
  unfold renI; rw [if_pos (by omega), if_pos h]
theorem ren1 {names : List (Int × Int)} {x : Instr} (h : opk x.Op = 1) (to : Int) : Instr.mk x.Op to (mget names x.A_ 0) x.B_ x.Num = renI names x to := by
  unfold renI; rw [if_pos (by omega), if_neg (by omega)]
theorem ren0 {names : List (Int × Int)} {x : Instr} (h : opk x.Op = 0) (to : Int) : Instr.mk x.Op to x.A_ x.B_ x.Num = renI names x to := by
  unfold renI; rw [if_neg (by omega), if_neg (by omega)]
theorem assign_round {c : Code} (hc : RC c) {lst : List Int} (hl : lst.length = c.All.length) (hv : ∀ v, v < c.All.length → nth lst v = La c.All c.All.length v) {i : Nat} (hi : i < c.All.length) {has names : List (Int × Int)} {M : Nat} {out : List Instr}
    (h : AS c i has M out names) : ∃ has' M' out' names', regs_assign_l_rd c lst i has (M : Int) out names = some (.inl (i + 1, has', ((M' : Nat) : Int), out', names')) ∧ AS c (i + 1) has' M' out' names' := by
  have hN := hc.len
  obtain ⟨q1, q2, _⟩ := insB_to (hc.ins i hi)
  have hM : M ≤ 100000 := by have := mxA_le c.All i; have := h.m; omega
  have hrel := release_eq (i := i) hl hv h.keys (fun x hx => by obtain ⟨q, v, rfl, _, k2, _⟩ := h.kb x hx; exact ⟨by simp, by simp; omega⟩) (M : Int)
  have hk1 : (keysR (has.filter (liv c i))).Nodup := List.Pairwise.sublist (List.Sublist.map _ List.filter_sublist) h.keys
  have hol := h.olen
  have g0 : ((i : Nat) : Int) < ((c.All.length : Nat) : Int) := by omega
  have g1 : out.length + 1 ≤ 2147483648 := by omega
  have g2 : inK .i64 ((i : Int) + 1) = true := inK_i64 (by omega) (by omega)
  by_cases ht : (nth c.All i).Op = 10
  · have ht' : ((nth c.All i).Op != 10) = false := by rw [ht]; rfl
    have ho : opk (nth c.All i).Op = 1 := by rw [ht]; rfl
    refine ⟨_, M, _, names, ?_, h.tell hc hi ht⟩
    have e2 : ((((rgs (nth c.All i)).length : Nat) : Int) == 2) = false := by rw [rgs_len, ho]; rfl
    have e1 : ((((rgs (nth c.All i)).length : Nat) : Int) == 1) = true := by rw [rgs_len, ho]; rfl
    unfold regs_assign_l_rd
    rw [reads_eq q1 q2]
    simp only [Bool.cond_decide, Option.bind_some, e2, e1, cond_false, cond_true, hrel, ht', if_pos g0, if_pos hi, if_pos g1, g2, ren1 ho]
  · have ht' : ((nth c.All i).Op != 10) = true := by rw [bne_iff_ne]; exact ht
    obtain ⟨q, M', ht1, ht2, ht3, ht4⟩ := take_eq (show M ≤ 200000 by omega) hk1 (fun k hk => h.kin k (List.Sublist.subset (List.Sublist.map _ List.filter_sublist) hk)) (i : Int)
    have hw := h.write hc hi ht ht2 ht3 ht4
    refine ⟨_, M', _, _, ?_, hw⟩
    have hrel2 := release_eq (i := i) (has := has.filter (liv c i) ++ [((q : Int), (i : Int))]) hl hv (by
      show ((has.filter (liv c i) ++ [((q : Int), (i : Int))]).map (·.1)).Nodup
      rw [List.map_append, List.nodup_append]
      refine ⟨hk1, List.pairwise_singleton _ _, fun a ha b hb => ?_⟩
      rw [List.map_cons, List.map_nil, List.mem_singleton] at hb
      subst hb
      exact fun e => ht2 (by have e' : a = (q : Int) := e; rw [← e']; exact ha)) (fun x hx => by
      rcases List.mem_append.1 hx with hx | hx
      · obtain ⟨q, v, rfl, _, k2, _⟩ := h.kb x (List.mem_filter.1 hx).1; exact ⟨by simp, by simp; omega⟩
      · rw [List.mem_singleton] at hx; subst hx; exact ⟨by simp, by simp; omega⟩) (M' : Int)
    have ho := opk_le (nth c.All i).Op
    unfold regs_assign_l_rd
    rw [reads_eq q1 q2]
    rcases Nat.lt_or_ge (opk (nth c.All i).Op) 1 with o | o
    · have o : opk (nth c.All i).Op = 0 := by omega
      have e2 : ((((rgs (nth c.All i)).length : Nat) : Int) == 2) = false := by rw [rgs_len, o]; rfl
      have e1 : ((((rgs (nth c.All i)).length : Nat) : Int) == 1) = false := by rw [rgs_len, o]; rfl
      simp only [Bool.cond_decide, Option.bind_some, e2, e1, cond_false, cond_true, hrel, hrel2, ht', ht1, if_pos g0, if_pos hi, if_pos g1, g2, ren0 (names := names) o]
    · rcases Nat.lt_or_ge (opk (nth c.All i).Op) 2 with o2 | o2
      · have o : opk (nth c.All i).Op = 1 := by omega
        have e2 : ((((rgs (nth c.All i)).length : Nat) : Int) == 2) = false := by rw [rgs_len, o]; rfl
        have e1 : ((((rgs (nth c.All i)).length : Nat) : Int) == 1) = true := by rw [rgs_len, o]; rfl
        simp only [Bool.cond_decide, Option.bind_some, e2, e1, cond_false, cond_true, hrel, hrel2, ht', ht1, if_pos g0, if_pos hi, if_pos g1, g2, ren1 o]
      · have o : opk (nth c.All i).Op = 2 := by omega
        have e2 : ((((rgs (nth c.All i)).length : Nat) : Int) == 2) = true := by rw [rgs_len, o]; rfl
        simp only [Bool.cond_decide, Option.bind_some, e2, cond_false, cond_true, hrel, hrel2, ht', ht1, if_pos g0, if_pos hi, if_pos g1, g2, ren2 o]
theorem assign_eq {c : Code} (hc : RC c) : ∃ has out names, regs_assign c = some (Code.mk c.Ins c.Rows c.Cols ((mxA c.All c.All.length : Nat) : Int) out) ∧ AS c c.All.length has (mxA c.All c.All.length) out names := by
  have hN := hc.len
  obtain ⟨lst, e1, hl, hv⟩ := regs_lasts_eq hc
  unfold regs_assign regs_assign_l
  obtain ⟨y, hy, has, M, out, names, rfl, hq⟩ := loop_inv (round := fun σ : Nat × (List (Int × Int)) × Int × List Instr × (List (Int × Int)) => regs_assign_l_rd c lst σ.1 σ.2.1 σ.2.2.1 σ.2.2.2.1 σ.2.2.2.2)
    (Q := fun y => ∃ (has : List (Int × Int)) (M : Nat) (out : List Instr) (names : List (Int × Int)), y = (has, (M : Int), out) ∧ AS c c.All.length has M out names)
    (fun i σ => ∃ (has : List (Int × Int)) (M : Nat) (out : List Instr) (names : List (Int × Int)), σ = (i, has, (M : Int), out, names) ∧ AS c i has M out names) c.All.length (0, [], 0, [], [])
    ⟨[], 0, [], [], rfl, ⟨List.Pairwise.nil, fun x hx => (by cases hx), fun v hv => by omega, fun x hx => (by cases hx), rfl, rfl, fun j hj => by omega, fun j hj => by omega, fun j hj => by omega, fun j hj => by omega, fun r hr => by rw [Wl] at hr; omega⟩⟩
    (fun i σ hi hI => by
      obtain ⟨has, M, out, names, rfl, h⟩ := hI
      obtain ⟨has', M', out', names', g1, g2⟩ := assign_round hc hl hv hi h
      exact ⟨_, g1, has', M', out', names', rfl, g2⟩)
    (fun σ hI => by
      obtain ⟨has, M, out, names, rfl, h⟩ := hI
      refine ⟨(has, (M : Int), out), ?_, has, M, out, names, rfl, h⟩
      simp only [regs_assign_l_rd, Bool.cond_decide]
      rw [if_neg (by omega)])
    (by simp only [FU]; omega)
  have hm := hq.m
  subst hm
  refine ⟨has, out, names, ?_, hq⟩
  rw [e1, Option.bind_some, hy]
  rfl
section
variable {c : Code} (hc : RC c) {has names : List (Int × Int)} {out : List Instr} (h : AS c c.All.length has (mxA c.All c.All.length) out names)
include hc h
theorem AS.readable {j : Nat} (hj : j < c.All.length) {r : Int} (hr : r ∈ rgs (nth out j)) : 0 ≤ Wl out r j := by
  have h1 : Wl out r j ∈ rv out j := List.mem_map_of_mem (f := fun r => Wl out r j) hr
  rw [h.rvs j hj] at h1
  obtain ⟨r', hr', e⟩ := List.mem_map.1 h1
  rw [← e]
  exact hc.read hj hr'
/-- what is assigned is right -/
theorem AS.right : RC (Code.mk c.Ins c.Rows c.Cols ((mxA c.All c.All.length : Nat) : Int) out) := by
  have hd := hc.hd
  have hmx := mxA_le c.All c.All.length
  have hol := h.olen
  have hd2 := hd
  unfold headB at hd2
  rw [decide_eq_true_eq] at hd2
  refine ⟨?_, fun j hj => ?_⟩
  · unfold headB
    rw [decide_eq_true_eq]
    simp only
    refine ⟨hd2.1, hd2.2.1, hd2.2.2.1, hd2.2.2.2.1, hd2.2.2.2.2.1, ?_, ?_, ?_⟩ <;> omega
  · have hj : j < c.All.length := by rw [← hol]; exact hj
    show insB _ (wrOf out j) (nth out j) = true
    obtain ⟨i1, i2, i3, i4, i5, i6, i7⟩ := insB_to (hc.ins j hj)
    obtain ⟨o1, o2⟩ := h.op j hj
    have hto := h.to j hj
    obtain ⟨ab1, ab2⟩ := h.ab j hj
    have hread := fun r hr => mem_wrOf.2 (AS.readable hc h hj (r := r) hr)
    unfold insB
    have b1 : (decide (0 ≤ (nth out j).Op) && decide ((nth out j).Op ≤ 10)) = true := by rw [o1, decide_eq_true i1, decide_eq_true i2]; rfl
    have b2 : numB (nth out j) = true := by unfold numB at i3 ⊢; rw [o1, o2]; exact i3
    have b3 : aB c.Ins (wrOf out j) (nth out j) = true := by
      unfold aB at i4 ⊢
      rw [o1]
      by_cases e0 : (nth c.All j).Op = 0
      · rw [if_pos e0] at i4 ⊢
        rw [ab1 (by rw [e0]; rfl)]; exact i4
      · rw [if_neg e0] at i4 ⊢
        by_cases e1 : (nth c.All j).Op = 1
        · rw [if_pos e1] at i4 ⊢
          rw [ab1 (by rw [e1]; rfl)]; exact i4
        · rw [if_neg e1, decide_eq_true_eq]
          refine hread _ (rgs_mem.2 (.inl ⟨?_, rfl⟩))
          rw [o1]
          unfold opk
          split
          · omega
          · rw [if_pos (by omega)]; omega
    have b4 : bB (wrOf out j) (nth out j) = true := by
      unfold bB at i5 ⊢
      rw [o1]
      by_cases e2 : opk (nth c.All j).Op = 2
      · rw [if_pos e2, decide_eq_true_eq]
        exact hread _ (rgs_mem.2 (.inr ⟨by rw [o1]; exact e2, rfl⟩))
      · rw [if_neg e2] at i5 ⊢
        have := opk_le (nth c.All j).Op
        rw [ab2 (by omega)]; exact i5
    have b5 : tB (Code.mk c.Ins c.Rows c.Cols ((mxA c.All c.All.length : Nat) : Int) out) (nth out j) = true := by
      unfold tB
      rw [o1]
      simp only
      by_cases e : (nth c.All j).Op = 10
      · rw [if_pos e] at hto i7 ⊢
        rw [hto, decide_eq_true i6, decide_eq_true i7]; rfl
      · rw [if_neg e] at hto ⊢
        rw [decide_eq_true hto.1, decide_eq_true hto.2]; rfl
    rw [b1, b2, b3, b4, b5]; rfl
theorem AS.nums (hx : ∀ x, x ∈ c.All → okL 64 x.Num) : ∀ x, x ∈ out → okL 64 x.Num := fun x hx' => by
  have _ := hc
  obtain ⟨j, hj, rfl⟩ := List.getElem_of_mem hx'
  rw [h.olen] at hj
  have := (h.op j hj).2
  rw [nth_get (by rw [h.olen]; exact hj)] at this
  rw [this]
  exact hx _ (nth_mem hj)
end
/-- an instruction with values in the place of registers -/
def valI (l : List Instr) (i : Nat) : Instr := ⟨(nth l i).Op, if (nth l i).Op = 10 then (nth l i).To else 0, if 1 ≤ opk (nth l i).Op then Wl l (nth l i).A_ i else (nth l i).A_, if opk (nth l i).Op = 2 then Wl l (nth l i).B_ i else (nth l i).B_, (nth l i).Num⟩
theorem values_j_eq {c : Code} (hc : RC c) {i : Nat} (hi : i < c.All.length) (out : List Instr) (ho : out.length ≤ 200000) : ref27_values_j c out (i : Int) (decide (opk (nth c.All i).Op = 2)) (nth c.All i).Op (nth c.All i).To (nth c.All i).A_ (nth c.All i).B_ (nth c.All i).Num.Neg (nth c.All i).Num.Num (nth c.All i).Num.Den =
    some (out ++ [valI c.All i]) := by
  have hN := hc.len
  obtain ⟨q1, q2, _⟩ := insB_to (hc.ins i hi)
  have hV := fun r => ref27_Value_eq hN (show i ≤ c.All.length by omega) r
  have hop : (1 ≤ opk (nth c.All i).Op) ↔ (nth c.All i).Op ≥ 2 := by
    unfold opk
    split
    · omega
    · split <;> omega
  unfold ref27_values_j ref27_values_j_2 ref27_values_j_3 ref27_values_j_4 valI
  simp only [Bool.cond_decide]
  have g1 : out.length + 1 ≤ 2147483648 := by omega
  by_cases e1 : opk (nth c.All i).Op = 2 <;> by_cases e2 : (nth c.All i).Op ≥ 2 <;> by_cases e3 : (nth c.All i).Op = 10
  all_goals
    have e3' : ((nth c.All i).Op != 10) = !decide ((nth c.All i).Op = 10) := rfl
    have hop' := hop
    simp only [e1, e2, e3', e3, hV, if_true, if_false, Option.bind_some, if_pos g1, decide_true, decide_false, Bool.not_true, Bool.not_false, cond_true, cond_false, hop, ↓reduceIte] <;> first | rfl | (simp_all <;> omega)
end Go.Ab.M
end

section
/-
  PLAIN LAW: HOW MANY VALUES ARE ALIVE, AND WHAT IS ASSIGNED, is as the document says.
-/
namespace Go.Ab.M
open Go.Proofs Go.Ab
set_option linter.unusedVariables false
set_option linter.unusedSimpArgs false

theorem values_eq {c : Code} (hc : RC c) : ref27_values c = some ((List.range c.All.length).map (valI c.All)) := by
  have hN := hc.len
  have hmap : ∀ i, (List.range (i + 1)).map (valI c.All) = (List.range i).map (valI c.All) ++ [valI c.All i] := fun i => by
    rw [List.range_succ, List.map_append]; rfl
  unfold ref27_values ref27_values_l
  have := loop_run (round := fun (σ : List Instr × Int) => ref27_values_l_rd c σ.1 σ.2) (fun i => ((List.range i).map (valI c.All), (i : Int))) c.All.length (r := (List.range c.All.length).map (valI c.All)) (fun i hi => by
    obtain ⟨q1, q2, _⟩ := insB_to (hc.ins i hi)
    have hj := values_j_eq hc hi ((List.range i).map (valI c.All)) (by simp; omega)
    have g2 : inK .i64 ((i : Int) + 1) = true := inK_i64 (by omega) (by omega)
    have hne : ((List.range i).map (valI c.All) ++ [valI c.All i]).isEmpty = false := by simp
    have hcast : (i : Int) + 1 = ((i + 1 : Nat) : Int) := by omega
    have k : ∀ b : Bool, decide (opk (nth c.All i).Op = 2) = b → ref27_values_j c ((List.range i).map (valI c.All)) (i : Int) b (nth c.All i).Op (nth c.All i).To (nth c.All i).A_ (nth c.All i).B_ (nth c.All i).Num.Neg (nth c.All i).Num.Num (nth c.All i).Num.Den = some ((List.range i).map (valI c.All) ++ [valI c.All i]) := fun b hb => by
      rw [← hb]; exact hj
    simp only [ref27_values_l_rd, Bool.cond_decide, Int.toNat_natCast]
    rw [if_pos (by omega), if_pos (by omega), if_pos hi, hmap]
    by_cases a2 : (nth c.All i).Op ≥ 2
    · rw [if_pos a2]
      by_cases a5 : (nth c.All i).Op ≤ 5
      · rw [if_pos a5, k true (decide_eq_true (by unfold opk; rw [if_pos (by omega)])), Option.bind_some, g2, cond_true, hne, Bool.not_false, cond_true, hcast]
      · rw [if_neg a5]
        by_cases a8 : (nth c.All i).Op = 8
        · rw [show ((nth c.All i).Op == 8) = true from beq_iff_eq.2 a8, cond_true, k true (decide_eq_true (by unfold opk; rw [if_pos (by omega)])), Option.bind_some, g2, cond_true, hne, Bool.not_false, cond_true, hcast]
        · rw [show ((nth c.All i).Op == 8) = false from beq_eq_false_iff_ne.2 a8, cond_false]
          by_cases a9 : (nth c.All i).Op = 9
          · rw [show ((nth c.All i).Op == 9) = true from beq_iff_eq.2 a9, k true (decide_eq_true (by unfold opk; rw [if_pos (by omega)])), Option.bind_some, g2, cond_true, hne, Bool.not_false, cond_true, hcast]
          · rw [show ((nth c.All i).Op == 9) = false from beq_eq_false_iff_ne.2 a9, k false (decide_eq_false (by unfold opk; rw [if_neg (by omega)]; split <;> omega)), Option.bind_some, g2, cond_true, hne, Bool.not_false, cond_true, hcast]
    · rw [if_neg a2]
      rw [show ((nth c.All i).Op == 8) = false from beq_eq_false_iff_ne.2 (by omega), cond_false, show ((nth c.All i).Op == 9) = false from beq_eq_false_iff_ne.2 (by omega), k false (decide_eq_false (by unfold opk; rw [if_neg (by omega)]; split <;> omega)), Option.bind_some, g2, cond_true, hne, Bool.not_false, cond_true, hcast]) (by
    simp only [ref27_values_l_rd, Bool.cond_decide]
    rw [if_neg (by omega)]) (by simp only [FU]; omega)
  rw [show (([] : List Instr), (0 : Int)) = ((List.range 0).map (valI c.All), ((0 : Nat) : Int)) from rfl, this]
  rfl
theorem Same_refl {c : Code} (hN : c.All.length ≤ 100000) (hx : ∀ x, x ∈ c.All → okL 64 x.Num) : ref25_Same c c = some true := by
  unfold ref25_Same
  simp only [bne_self_eq_false, cond_false]
  have : ref25_Same_l c c 0 = some (.inr ()) := by
    unfold ref25_Same_l
    refine loop_run (round := fun σ : Nat => ref25_Same_l_rd c c σ) (fun i => i) c.All.length (fun i hi => ?_) ?_ (by simp only [FU]; omega)
    · obtain ⟨_, _, h3, h4⟩ := hx _ (nth_mem hi)
      simp only [ref25_Same_l_rd, Bool.cond_decide, ref08_Equal_eq (show (nth c.All i).Num.Num.length ≤ 900000000 by omega) (by omega), Option.bind_some, decide_true, Bool.not_true, cond_false, bne_self_eq_false, inK_i64 (show -9223372036854775808 ≤ (i : Int) + 1 by omega) (by omega), cond_true]
      rw [if_pos (by omega), if_pos hi, if_pos hi]
    · simp only [ref25_Same_l_rd, Bool.cond_decide]
      rw [if_neg (by omega)]
  rw [this]
  rfl
theorem valI_same {c : Code} (hc : RC c) {has names : List (Int × Int)} {out : List Instr} (h : AS c c.All.length has (mxA c.All c.All.length) out names) {j : Nat} (hj : j < c.All.length) : valI out j = valI c.All j := by
  obtain ⟨o1, o2⟩ := h.op j hj
  have hto := h.to j hj
  obtain ⟨ab1, ab2⟩ := h.ab j hj
  have hrv := h.rvs j hj
  have hle := opk_le (nth c.All j).Op
  unfold valI
  rw [o1, o2]
  have e1 : (if (nth c.All j).Op = 10 then (nth out j).To else 0) = if (nth c.All j).Op = 10 then (nth c.All j).To else 0 := by
    by_cases e : (nth c.All j).Op = 10
    · rw [if_pos e] at hto; rw [if_pos e, if_pos e, hto]
    · rw [if_neg e, if_neg e]
  have e2 : (if 1 ≤ opk (nth c.All j).Op then Wl out (nth out j).A_ j else (nth out j).A_) = if 1 ≤ opk (nth c.All j).Op then Wl c.All (nth c.All j).A_ j else (nth c.All j).A_ := by
    by_cases e : 1 ≤ opk (nth c.All j).Op
    · rw [if_pos e, if_pos e]
      unfold rv rgs at hrv
      rw [o1] at hrv
      by_cases q : opk (nth c.All j).Op = 2
      · rw [if_pos q, if_pos q] at hrv
        simp only [List.map_cons, List.map_nil, List.cons.injEq] at hrv
        exact hrv.1
      · rw [if_neg q, if_neg q, if_pos (by omega), if_pos (by omega)] at hrv
        simp only [List.map_cons, List.map_nil, List.cons.injEq] at hrv
        exact hrv.1
    · rw [if_neg e, if_neg e]; exact ab1 (by omega)
  have e3 : (if opk (nth c.All j).Op = 2 then Wl out (nth out j).B_ j else (nth out j).B_) = if opk (nth c.All j).Op = 2 then Wl c.All (nth c.All j).B_ j else (nth c.All j).B_ := by
    by_cases q : opk (nth c.All j).Op = 2
    · rw [if_pos q, if_pos q]
      unfold rv rgs at hrv
      rw [o1, if_pos q, if_pos q] at hrv
      simp only [List.map_cons, List.map_nil, List.cons.injEq] at hrv
      exact hrv.2.1
    · rw [if_neg q, if_neg q]; exact ab2 (by omega)
  rw [e1, e2, e3]
theorem Like_eq {c : Code} (hc : RC c) (hx : ∀ x, x ∈ c.All → okL 64 x.Num) {has names : List (Int × Int)} {out : List Instr} (h : AS c c.All.length has (mxA c.All c.All.length) out names) :
    ref27_Like c (Code.mk c.Ins c.Rows c.Cols ((mxA c.All c.All.length : Nat) : Int) out) = some true := by
  have hol := h.olen
  have hd := AS.right hc h
  unfold ref27_Like
  rw [values_eq hc, values_eq hd]
  have e : (List.range out.length).map (valI out) = (List.range c.All.length).map (valI c.All) := by
    rw [hol]
    exact List.map_congr_left fun j hj => valI_same hc h (List.mem_range.1 hj)
  simp only [bne_self_eq_false, cond_false, hol, Option.bind_some]
  rw [hol] at e
  rw [e, Same_refl (by simp; exact hc.len) (fun x hx' => by
    obtain ⟨j, hj, rfl⟩ := List.mem_map.1 hx'
    show okL 64 (nth c.All j).Num
    exact hx _ (nth_mem (List.mem_range.1 hj)))]
  rfl
theorem regs_Assign_t {c : Code} (hx : ∀ x, x ∈ c.All → okL 64 x.Num) (hc : RC c) : ∃ has out names, regs_Assign c = some (Code.mk c.Ins c.Rows c.Cols ((mxA c.All c.All.length : Nat) : Int) out, 0) ∧ AS c c.All.length has (mxA c.All c.All.length) out names := by
  obtain ⟨has, out, names, e, h⟩ := assign_eq hc
  refine ⟨has, out, names, ?_, h⟩
  unfold regs_Assign
  rw [vm_Right_eq hx, Option.bind_some, rightB_iff.2 hc, Bool.not_true, cond_false, e]
  rfl
theorem awake27 : law27_awake = some true := by kernel_rfl
def RatIn (x : Rat) : Prop := True ∧ (x.Num.length ≤ maxLen ∧ ∀ z, z ∈ x.Num → inRange .u32 z) ∧ (x.Den.length ≤ maxLen ∧ ∀ z, z ∈ x.Den → inRange .u32 z)
theorem RatIn.ok {x : Rat} {n : Nat} (h : RatIn x) (k : x.Num.length ≤ n ∧ x.Den.length ≤ n) : okL n x :=
  ⟨fun z hz => ⟨(h.2.1.2 z hz).1, Int.lt_of_le_of_lt (h.2.1.2 z hz).2 (by decide)⟩, fun z hz => ⟨(h.2.2.2 z hz).1, Int.lt_of_le_of_lt (h.2.2.2 z hz).2 (by decide)⟩, k.1, k.2⟩
/-- what is known of a code that is looked at -/
def CodeIn (c : Code) : Prop := inRange .i64 c.Ins ∧ inRange .i64 c.Rows ∧ inRange .i64 c.Cols ∧ inRange .i64 c.Regs ∧ (c.All.length ≤ maxLen ∧ ∀ z, z ∈ c.All → inRange .i64 z.Op ∧ inRange .i64 z.To ∧ inRange .i64 z.A_ ∧ inRange .i64 z.B_ ∧ RatIn z.Num)
def fewC (c : Code) : Prop := c.All.length ≤ 16 ∧ c.Regs ≤ 1000 ∧ ∀ x, x ∈ c.All → x.Num.Num.length ≤ 6 ∧ x.Num.Den.length ≤ 6
theorem CodeIn.ok {c : Code} (h : CodeIn c) (hf : fewC c) : ∀ x, x ∈ c.All → okL 64 x.Num := fun x hx =>
  ((h.2.2.2.2.2 x hx).2.2.2.2.ok (hf.2.2 x hx)).mono (by decide)
theorem ref25_Few_eq (c : Code) : (fewC c → ref25_Few c 16 = some true) ∧ (¬ fewC c → ref25_Few c 16 = some false) := by
  have one : ∀ w : Instr, ref08_Few [w.Num] 6 = some (decide (w.Num.Num.length ≤ 6 ∧ w.Num.Den.length ≤ 6)) := fun w => by
    have := Few_eq (l := [w.Num]) (by simp) 6
    rw [show ((6 : Nat) : Int) = 6 from rfl] at this
    rw [this]
    congr 1
    simp
  have loop : c.All.length ≤ 16 → ref25_Few_l c 0 = some (if (List.range c.All.length).all (fun i => decide ((nth c.All i).Num.Num.length ≤ 6 ∧ (nth c.All i).Num.Den.length ≤ 6)) = true then .inr () else .inl ()) := fun h40 => by
    unfold ref25_Few_l
    refine loop_all (round := fun σ => ref25_Few_l_rd c σ) (fun i => decide ((nth c.All i).Num.Num.length ≤ 6 ∧ (nth c.All i).Num.Den.length ≤ 6)) c.All.length (.inr ()) (.inl ()) (fun i hi hp => ?_) (fun i hi hp => ?_) ?_ (by simp only [FU]; omega)
    · simp (disch := omega) only [ref25_Few_l_rd, one, hp, Bool.not_true, cond_false, Option.bind_some, Bool.cond_decide, if_t, inK_i64, cond_true]
    · simp (disch := omega) only [ref25_Few_l_rd, one, hp, Bool.not_false, cond_true, Option.bind_some, Bool.cond_decide, if_t]
    · simp (disch := omega) only [ref25_Few_l_rd, Bool.cond_decide, if_f]
  have hall : (List.range c.All.length).all (fun i => decide ((nth c.All i).Num.Num.length ≤ 6 ∧ (nth c.All i).Num.Den.length ≤ 6)) = true ↔ ∀ x, x ∈ c.All → x.Num.Num.length ≤ 6 ∧ x.Num.Den.length ≤ 6 := by
    rw [List.all_eq_true]
    constructor
    · intro h x hx
      obtain ⟨i, hi, rfl⟩ := List.getElem_of_mem hx
      have := h i (List.mem_range.2 hi)
      rw [decide_eq_true_eq, nth_get hi] at this
      exact this
    · intro h i hi
      exact decide_eq_true (h _ (nth_mem (List.mem_range.1 hi)))
  unfold ref25_Few
  simp only [Bool.cond_decide]
  constructor
  · rintro ⟨h1, h2, h3⟩
    rw [if_neg (by omega), if_neg (by omega), loop h1, if_pos (hall.2 h3)]
    rfl
  · intro hn
    by_cases h1 : c.All.length ≤ 16
    · by_cases h2 : c.Regs ≤ 1000
      · rw [if_neg (by omega), if_neg (by omega), loop h1, if_neg fun q => hn ⟨h1, h2, hall.1 q⟩]
        rfl
      · rw [if_neg (by omega), if_pos (by omega)]
    · rw [if_pos (by omega)]
end Go.Ab.M
end

section
/-
  PLAIN LAW: WHAT IS ASSIGNED.
-/
namespace Go.Ab.M
open Go.Proofs Go.Ab
set_option linter.unusedVariables false
set_option linter.unusedSimpArgs false

theorem RegsAssign_true (c : Code) (h : CodeIn c) : law27_RegsAssign c = some true := by
  unfold law27_RegsAssign
  rw [awake27, Option.bind_some]
  by_cases hf : fewC c
  · have hx := h.ok hf
    rw [(ref25_Few_eq c).1 hf, Option.bind_some, Bool.not_true, cond_false, ref25_Right_eq hx]
    cases hb : rightB c with
    | false =>
      have e : regs_Assign c = some (Code.mk 0 0 0 0 [], 11) := by
        unfold regs_Assign
        rw [vm_Right_eq hx, hb]; rfl
      rw [e, Option.bind_some, Option.bind_some, Bool.not_false, cond_true, cond_true]
      rw [show ((Code.mk 0 0 0 0 [], (11 : Int)).2 == 11) = true from rfl, cond_true, Same_refl (by decide) (fun x hx => by cases hx)]
      rfl
    | true =>
      have hc := rightB_iff.1 hb
      obtain ⟨has, out, names, e, hs⟩ := regs_Assign_t hx hc
      have hd := AS.right hc hs
      have hxd := AS.nums hc hs hx
      rw [e, Option.bind_some, Option.bind_some, Bool.not_true, cond_false, cond_true]
      simp only
      rw [show ((0 : Int) == 0) = true from rfl, cond_true, ref25_Right_eq (c := Code.mk c.Ins c.Rows c.Cols ((mxA c.All c.All.length : Nat) : Int) out) hxd, rightB_iff.2 hd, Option.bind_some, cond_true, Like_eq hc hx hs, Option.bind_some, cond_true, ref27_Live_eq hx, hb, if_pos rfl, Option.bind_some]
      simp
  · rw [(ref25_Few_eq c).2 hf]
    rfl
end Go.Ab.M
end

section
/-
  ARGUMENTS AS TYPED DATA (printed by jot.py).
-/
namespace Go.Ab.M
open Go.Proofs Go.Proofs.Ythikenallhbkpaa
set_option linter.unusedVariables false
def tyRat : Ty Try.prog 38 := Ty.as (Ty.struct Try.underlying38 (Flds.cons (Ty.bool Try.underlying4) rfl 1 (by kernel_rfl) (Flds.cons (Ty.slice Try.underlying36 (Ty.int .u32 Try.underlying75) (by decide +kernel) (fun _ => show 1 = _ by kernel_rfl)) rfl 1 (by kernel_rfl) (Flds.last (Ty.slice Try.underlying36 (Ty.int .u32 Try.underlying75) (by decide +kernel) (fun _ => show 1 = _ by kernel_rfl)) rfl (by kernel_rfl)))))
  (fun y => Rat.mk y.1 y.2.1 y.2.2) Rat.D (fun y => True ∧ (y.Num.length ≤ maxLen ∧ ∀ z, z ∈ y.Num → inRange .u32 z) ∧ (y.Den.length ≤ maxLen ∧ ∀ z, z ∈ y.Den → inRange .u32 z)) (fun _ => 0) (fun _ => rfl) (fun _ h => h) (fun _ => Nat.zero_le _)
def tyInstr : Ty Try.prog 40 := Ty.as (Ty.struct Try.underlying40 (Flds.cons (Ty.int .i64 Try.underlying3) rfl 1 (by kernel_rfl) (Flds.cons (Ty.int .i64 Try.underlying3) rfl 1 (by kernel_rfl) (Flds.cons (Ty.int .i64 Try.underlying3) rfl 1 (by kernel_rfl) (Flds.cons (Ty.int .i64 Try.underlying3) rfl 1 (by kernel_rfl) (Flds.last tyRat rfl (by kernel_rfl)))))))
  (fun y => Instr.mk y.1 y.2.1 y.2.2.1 y.2.2.2.1 y.2.2.2.2) Instr.D (fun y => inRange .i64 y.Op ∧ inRange .i64 y.To ∧ inRange .i64 y.A_ ∧ inRange .i64 y.B_ ∧ tyRat.ok y.Num) (fun _ => 0) (fun _ => rfl) (fun _ h => h) (fun _ => Nat.zero_le _)
def tyCode : Ty Try.prog 24 := Ty.as (Ty.struct Try.underlying24 (Flds.cons (Ty.int .i64 Try.underlying3) rfl 1 (by kernel_rfl) (Flds.cons (Ty.int .i64 Try.underlying3) rfl 1 (by kernel_rfl) (Flds.cons (Ty.int .i64 Try.underlying3) rfl 1 (by kernel_rfl) (Flds.cons (Ty.int .i64 Try.underlying3) rfl 1 (by kernel_rfl) (Flds.last (Ty.slice Try.underlying22 tyInstr (by decide +kernel) (fun _ => show 7 = _ by kernel_rfl)) rfl (by kernel_rfl)))))))
  (fun y => Code.mk y.1 y.2.1 y.2.2.1 y.2.2.2.1 y.2.2.2.2) Code.D (fun y => inRange .i64 y.Ins ∧ inRange .i64 y.Rows ∧ inRange .i64 y.Cols ∧ inRange .i64 y.Regs ∧ (y.All.length ≤ maxLen ∧ ∀ z, z ∈ y.All → tyInstr.ok z)) (fun _ => 0) (fun _ => rfl) (fun _ h => h) (fun _ => Nat.zero_le _)
end Go.Ab.M
end

section
namespace Go.Proofs.Ythikenallhbkpaa.regsAssign
open Go.ChangeShapes Go.WideShapes Go.ChangeAt Go.RowKit Go.Ab Go.Ab.M
set_option linter.unusedVariables false

theorem own : ownKnob Try.prog.godebug = none := by kernel_rfl

theorem core (a : Go.Ab.M.Code) (ha : tyCode.ok a) : ACallsD Try.prog 4 0 [AG Go.Ab.M.Code.D a] [] yes [] := law27_RegsAssign_ok a true (RegsAssign_true a ha)

set_option maxRecDepth 100000 in
theorem contract (H : Type) (enc : TypeId × Value → H) (W : World) (base : Nat) (args : Array Value) (ds gs : List (DataW H)) (before : List MemPlace)
    (hval : ∀ (j : Nat) t v, Try.f4.params[j]? = some t → args[j]? = some v → Value.okWide Try.prog W .any base t v)
    (hW : DataW.Whole enc Try.prog Try.f4.params.toList Rows.regsAssignSpec.vars false W args.toList ds gs before) :
    Calls Try.prog 4 args W fun e W' => ∃ v, e = .returned v ∧ Rows.regsAssignSpec.post enc Try.prog Try.f4 false true false false W args v W' :=
  law_contract (tb := 4) (ts := [24]) (Tup.agg tyCode (by kernel_rfl) Tup.nil) (by kernel_rfl) (by kernel_rfl) (by kernel_rfl) (by kernel_rfl) Try.underlying4 rfl (fun ds h => by
      match ds, h with
      | [d0], _ => rfl) hval hW
    fun y hy _ => core y.1 hy.1

set_option maxRecDepth 100000 in
theorem lifted (os : Os) (started : os.Started) (H : Type) (enc : TypeId × Value → H) :
    ReturnsInHanded {} Try.checked os 4 .any (Rows.regsAssignSpec.pre6 enc Try.prog Try.f4 Rows.regsAssignRow.domain false) (Rows.regsAssignSpec.post enc Try.prog Try.f4 false true false false) := by
  refine returnsInHanded_of_change (C := Try.checked) own started (by kernel_rfl) Try.func4
    (ChangeSpec.witness6 (enc := enc) (C := Try.checked) false ⟨#[], #[.agg #[.int .i64 0, .int .i64 0, .int .i64 0, .int .i64 0, .slice none 0 0]], []⟩ 8 (by kernel_rfl) (by kernel_rfl) (by kernel_rfl) (by kernel_rfl)) ?_
  intro W base args ds gs before hval hW _ _
  exact contract H enc W base args ds gs before hval hW

theorem fact0 : (Rows.regsAssignRow.wf (OpenSpec.ofChange Rows.regsAssignSpec)) = true := by kernel_rfl
theorem fact1 : (laidOutB Try.prog) = true := by kernel_rfl
theorem fact2 : (mapsRowed Try.prog) = true := by kernel_rfl
theorem fact3 : (Try.f4.params.all (Try.prog.readableRec ·)) = true := by kernel_rfl
theorem fact4 : (namedTie Try.prog Rows.regsAssignRow.named Rows.regsAssignSpec.vars) = true := by kernel_rfl
theorem fact5 : ((Rows.regsAssignRow.stops == [])) = true := by kernel_rfl
theorem fact6 : ((Try.prog.stops == [])) = true := by kernel_rfl
theorem fact7 : ((Rows.regsAssignRow.knobs == [])) = true := by kernel_rfl
theorem fact8 : ((Try.prog.stopKnobs == [])) = true := by kernel_rfl
theorem fact9 : ((Rows.regsAssignRow.inPlace == Try.prog.inPlace 4)) = true := by kernel_rfl
theorem fact10 : ((Rows.regsAssignRow.unfollowed == Try.prog.unfollowed 4)) = true := by kernel_rfl
theorem fact11 : ((Rows.regsAssignRow.recurses == Try.prog.recurses 4)) = true := by kernel_rfl
theorem fact12 : ((Rows.regsAssignRow.named == Try.prog.varsNamed 4)) = true := by kernel_rfl
theorem fact13 : ((Rows.regsAssignRow.maps == (Try.f4.params.toList ++ Rows.regsAssignSpec.plain.varTypes Try.prog).any (Try.prog.mapsRec ·))) = true := by kernel_rfl
theorem fact14 : ((Rows.regsAssignRow.ifaces == (Try.f4.params.toList ++ Rows.regsAssignSpec.plain.varTypes Try.prog).any (Try.prog.ifacesRec ·))) = true := by kernel_rfl
theorem fact15 : ((Rows.regsAssignRow.mapsOut == Try.prog.mapsAmong Try.f4.resultTypes.toList)) = true := by kernel_rfl
theorem fact16 : ((Rows.regsAssignRow.loops == (Try.f4.params.toList ++ Rows.regsAssignSpec.plain.varTypes Try.prog).any (Try.prog.loopsFrom ·))) = true := by kernel_rfl
theorem fact17 : ((Rows.regsAssignRow.wideKeys == (Try.f4.params.toList ++ Rows.regsAssignSpec.plain.varTypes Try.prog ++ Try.f4.resultTypes.toList).any (Try.prog.wideKeysFrom ·))) = true := by kernel_rfl
theorem fact18 : (Rows.regsAssignSpec.vars.all (Try.prog.varReadable ·)) = true := by kernel_rfl
theorem fact19 : (Try.f4.resultTypes.all (fun t => Try.prog.readableRec t && decide (t < Try.prog.types.size))) = true := by kernel_rfl
theorem fact20 : ((Rows.regsAssignRow.ifacesOut == Try.f4.resultTypes.toList.any (Try.prog.ifacesRec ·))) = true := by kernel_rfl
theorem fact21 : ((Rows.regsAssignRow.loopsOut == Try.f4.resultTypes.toList.any (Try.prog.loopsFrom ·))) = true := by kernel_rfl
theorem fact22 : ((Rows.regsAssignRow.plainKeys == Try.prog.plainKeys)) = true := by kernel_rfl
theorem fact23 : (Rows.regsAssignRow.shortTexts.isNone) = true := by kernel_rfl
theorem fact24 : (Try.prog.stopsHeard) = true := by kernel_rfl
theorem fact25 : (Try.prog.mayEnter) = true := by kernel_rfl
theorem fact26 : ((Rows.regsAssignRow.lifted == Try.prog.liftsFinal)) = true := by kernel_rfl
theorem fact27 : ((Try.prog.make == some Rows.regsAssignRow.make)) = true := by kernel_rfl
theorem fact28 : ((Rows.regsAssignRow.kinds == (if Rows.regsAssignRow.domain.isEmpty then [] else Try.f4.params.toList.map fun t => match Try.prog.underlying t with | some (.int k) => some k | _ => none))) = true := by kernel_rfl
theorem fact29 : ((Rows.regsAssignRow.pinned == Rows.regsAssignRow.pinnedBy)) = true := by kernel_rfl
theorem fact30 : ((Rows.regsAssignRow.veiled == (Try.f4.params.toList ++ Rows.regsAssignSpec.plain.varTypes Try.prog ++ Try.f4.resultTypes.toList).any (Try.prog.veiledRec ·))) = true := by kernel_rfl
theorem fact31 : (Rows.regsAssignRow.veiledFits Try.prog Try.f4.params.toList (Try.f4.params.toList ++ Rows.regsAssignSpec.plain.varTypes Try.prog ++ Try.f4.resultTypes.toList)) = true := by kernel_rfl
theorem and_t {a b : Bool} (h : a = true) (k : b = true) : (a && b) = true := by rw [h, k]; rfl
set_option maxRecDepth 100000 in
theorem closed : joinedFacts Try.prog 4 Try.f4 Rows.regsAssignSpec Rows.regsAssignRow = true := by
  unfold joinedFacts
  exact and_t (and_t (and_t (and_t (and_t (and_t (and_t (and_t (and_t (and_t (and_t (and_t (and_t (and_t (and_t (and_t (and_t (and_t (and_t (and_t (and_t (and_t (and_t (and_t (and_t (and_t (and_t (and_t (and_t (and_t (and_t (fact0) fact1) fact2) fact3) fact4) fact5) fact6) fact7) fact8) fact9) fact10) fact11) fact12) fact13) fact14) fact15) fact16) fact17) fact18) fact19) fact20) fact21) fact22) fact23) fact24) fact25) fact26) fact27) fact28) fact29) fact30) fact31

theorem over : Rows.regsAssignRow.holds Try.pinned (OpenSpec.ofChange Rows.regsAssignSpec) :=
  OpenClaim.holds_of_wide 4 Try.f4 rfl rfl rfl rfl rfl rfl rfl ⟨rfl, rfl, rfl, rfl, rfl⟩ rfl rfl rfl rfl rfl (by kernel_rfl) Try.func4 closed
    (of_decide_eq_true (by kernel_rfl)) (by unfold Func.isWrapper; first | (rw [if_pos (by decide +kernel)]; kernel_rfl) | (rw [if_neg (by decide +kernel)]; exact ⟨rfl, rfl⟩))
    (fun os started H enc _ => lifted os started H enc)

theorem proved : Rows.RegsAssignSaid :=
  over
end Go.Proofs.Ythikenallhbkpaa.regsAssign
end
