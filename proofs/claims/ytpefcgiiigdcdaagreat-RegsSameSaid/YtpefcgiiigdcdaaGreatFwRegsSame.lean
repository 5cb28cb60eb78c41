/-
  THE LAW 'RegsSame' HOLDS AT EVERY INPUT.
  Conditions: none.
-/
import Derived.Test.YtpefcgiiigdcdaaGreatLwRegsSame
import Derived.Test.YtpefcgiiigdcdaaGreatPX
import Derived.Test.YtpefcgiiigdcdaaGreatPH
section
/-
  PLAIN LAW: WHAT AN INSTRUCTION COMES TO, BY WHAT IT READS COMES TO.
-/
namespace Go.Ab.M
open Go.Proofs Go.Ab
set_option linter.unusedVariables false
set_option linter.unusedSimpArgs false

/-- how many words a number has -/
def wdQ (q : _root_.Rat) : Nat := max (natW q.num.natAbs).length (natW q.den).length
theorem wdQ_ok (q : _root_.Rat) : okL (wdQ q) (ofR q) := ⟨natW_wds _, natW_wds _, Nat.le_max_left .., Nat.le_max_right ..⟩
theorem wdQ_pos (q : _root_.Rat) : 0 < wdQ q := Nat.lt_of_lt_of_le (natW_lenpos q.den_pos) (Nat.le_max_right ..)
theorem okL_wd {q : _root_.Rat} {n : Nat} (h : wdQ q ≤ n) : okL n (ofR q) := (wdQ_ok q).mono h
theorem words_eq (q : _root_.Rat) : vm_words (ofR q) = some ((wdQ q : Nat) : Int) := by
  have e : mxI (((natW q.num.natAbs).length : Nat) : Int) (((natW q.den).length : Nat) : Int) = ((wdQ q : Nat) : Int) := by
    unfold mxI wdQ
    rw [cond_true]
    split <;> omega
  exact congrArg some e

/-- what an instruction comes to, by what A, and B, come to -/
def opQ (xs : List Rat) (y : Instr) (a b : _root_.Rat) : Int ⊕ _root_.Rat :=
  if y.Op = 0 then .inr (qR (nth xs y.A_.toNat))
  else if y.Op = 1 then .inr (qR y.Num)
  else if y.Op = 2 ∨ y.Op = 9 then .inr (a + b)
  else if y.Op = 3 then .inr (a - b)
  else if y.Op = 4 ∨ y.Op = 8 then .inr (a * b)
  else if y.Op = 5 then (if b = 0 then .inl 3 else .inr (a / b))
  else if y.Op = 6 then .inr (-a)
  else if y.B_ < 0 ∧ a = 0 then .inl 3 else if wdQ a * y.B_.natAbs > 4096 then .inl 4 else .inr (a ^ y.B_)
/-- no number of more than 4096 words -/
def capQ : Int ⊕ _root_.Rat → Int ⊕ _root_.Rat
  | .inl e => .inl e
  | .inr q => if wdQ q > 4096 then .inl 4 else .inr q
def outS (o1 o2 : List Rat) (t : Int) : Int ⊕ _root_.Rat → Int × List Rat × List Rat
  | .inl e => (e, o1, o2)
  | .inr q => (0, o1.set t.toNat (ofR q), o2)
def tlV (x1 : Rat × Int) (o1 o2 : List Rat) (t : Int) : Option (Int × List Rat × List Rat) :=
  bif x1.2 == 0 then
    (vm_words x1.1).bind fun x2 =>
    bif decide (x2 > 4096) then
      some (4, o1, o2)
    else
      bif x1.2 == 0 then
        bif decide (0 ≤ t) then
        bif decide (t.toNat < o1.length) then
        bif decide (t.toNat < o1.length) then
        some (x1.2, o1.set t.toNat x1.1, o2)
        else none
        else none
        else none
      else
        some (x1.2, o1, o2)
  else
    bif x1.2 == 0 then
      bif decide (0 ≤ t) then
      bif decide (t.toNat < o1.length) then
      bif decide (t.toNat < o1.length) then
      some (x1.2, o1.set t.toNat x1.1, o2)
      else none
      else none
      else none
    else
      some (x1.2, o1, o2)
theorem tlV_ok (q : _root_.Rat) (o1 o2 : List Rat) {t : Int} (t0 : 0 ≤ t) (t1 : t.toNat < o1.length) : tlV (ofR q, 0) o1 o2 t = some (outS o1 o2 t (capQ (.inr q))) := by
  unfold tlV capQ outS
  rw [show ((0 : Int) == 0) = true from rfl]
  simp only [cond_true, words_eq, Option.bind_some, decide_eq_true t0, decide_eq_true t1, Bool.cond_decide]
  by_cases h : wdQ q > 4096
  · rw [if_pos (by omega), if_pos h]
  · rw [if_neg (by omega), if_neg h]
theorem tlV_no (x : Rat) (o1 o2 : List Rat) (t : Int) {e : Int} (h : (e == 0) = false) : tlV (x, e) o1 o2 t = some (outS o1 o2 t (capQ (.inl e))) := by
  unfold tlV capQ outS
  simp only [h, cond_false]

section
variable {x : List Rat} {rc : Nat} {R C : Int} {o1 o2 : List Rat} {i : Instr} {a b : _root_.Rat}
/-- a register that is read -/
structure Rd (o1 : List Rat) (r : Int) (a : _root_.Rat) : Prop where
  p : 0 ≤ r
  l : r.toNat < o1.length
  v : nth o1 r.toNat = ofR a
  w : wdQ a ≤ 4096
theorem vm_add_eq (ha : Rd o1 i.A_ a) (hb : Rd o1 i.B_ b) : vm_machine_add x rc R C o1 o2 i = some (ofR (a + b), 0) := by
  have q := ratio_Add_eq (okL_wd ha.w) (okL_wd hb.w) (by omega) (by omega)
  rw [qR_ofR, qR_ofR] at q
  simp only [vm_machine_add, decide_eq_true ha.p, decide_eq_true ha.l, decide_eq_true hb.p, decide_eq_true hb.l, cond_true, ha.v, hb.v, q, Option.bind_some]
theorem vm_sub_eq (ha : Rd o1 i.A_ a) (hb : Rd o1 i.B_ b) : vm_machine_sub x rc R C o1 o2 i = some (ofR (a - b), 0) := by
  have q := ratio_Sub_eq (okL_wd ha.w) (okL_wd hb.w) (by omega) (by omega)
  rw [qR_ofR, qR_ofR] at q
  simp only [vm_machine_sub, decide_eq_true ha.p, decide_eq_true ha.l, decide_eq_true hb.p, decide_eq_true hb.l, cond_true, ha.v, hb.v, q, Option.bind_some]
theorem vm_mul_eq (ha : Rd o1 i.A_ a) (hb : Rd o1 i.B_ b) : vm_machine_mul x rc R C o1 o2 i = some (ofR (a * b), 0) := by
  have q := ratio_Mul_eq (okL_wd ha.w) (okL_wd hb.w) (by omega)
  rw [qR_ofR, qR_ofR] at q
  simp only [vm_machine_mul, decide_eq_true ha.p, decide_eq_true ha.l, decide_eq_true hb.p, decide_eq_true hb.l, cond_true, ha.v, hb.v, q, Option.bind_some]
theorem vm_div_eq (ha : Rd o1 i.A_ a) (hb : Rd o1 i.B_ b) : vm_machine_div x rc R C o1 o2 i = some (if b = 0 then (⟨false, [], []⟩, 3) else (ofR (a / b), 0)) := by
  have q := ratio_Div_eq (okL_wd ha.w) (okL_wd hb.w) (by omega) (by omega)
  rw [qR_ofR, qR_ofR] at q
  simp only [vm_machine_div, decide_eq_true ha.p, decide_eq_true ha.l, decide_eq_true hb.p, decide_eq_true hb.l, cond_true, ha.v, hb.v, q, Option.bind_some]
theorem vm_neg_eq (ha : Rd o1 i.A_ a) : vm_machine_neg x rc R C o1 o2 i = some (ofR (-a), 0) := by
  have q := ratio_Neg_eq (okL_wd ha.w) (by omega)
  rw [qR_ofR] at q
  simp only [vm_machine_neg, decide_eq_true ha.p, decide_eq_true ha.l, cond_true, ha.v, q, Option.bind_some]
theorem vm_input_eq (h0 : 0 ≤ i.A_) (h1 : i.A_.toNat < x.length) (h : okL 64 (nth x i.A_.toNat)) : vm_machine_input x rc R C o1 o2 i = some (ofR (qR (nth x i.A_.toNat)), 0) := by
  have q := ratio_Fix_eq h (by omega)
  simp only [vm_machine_input, decide_eq_true h0, decide_eq_true h1, cond_true, q, Option.bind_some]
theorem vm_constant_eq (h : okL 64 i.Num) : vm_machine_constant x rc R C o1 o2 i = some (ofR (qR i.Num), 0) := by
  have q := ratio_Fix_eq h (by omega)
  simp only [vm_machine_constant, q, Option.bind_some]
theorem vm_pow_eq (ha : Rd o1 i.A_ a) (h1 : -21 ≤ i.B_) (h2 : i.B_ ≤ 21) : vm_machine_pow x rc R C o1 o2 i = some (if i.B_ < 0 ∧ a = 0 then (⟨false, [], []⟩, 3) else if wdQ a * i.B_.natAbs > 4096 then (⟨false, [], []⟩, 4) else (ofR (a ^ i.B_), 0)) := by
  have hz := num_len_zero a
  have hw := wdQ_pos a
  have e1 : inK .i64 (0 - i.B_) = true := by rw [inK_i64 (by omega) (by omega)]
  have e0 : ((wdQ a : Nat) : Int) * ((i.B_.natAbs : Nat) : Int) = ((wdQ a * i.B_.natAbs : Nat) : Int) := (Int.natCast_mul _ _).symm
  have e3 : wdQ a * i.B_.natAbs ≤ 4096 * 21 := Nat.mul_le_mul ha.w (by omega)
  have e2 : inK .i64 (((wdQ a * i.B_.natAbs : Nat) : Int)) = true := by rw [inK_i64 (by omega) (by omega)]
  have q : ∀ _ : ¬ wdQ a * i.B_.natAbs > 4096, ratio_Pow (ofR a) i.B_ = some (pwR a i.B_) := fun h => by
    have := ratio_Pow_eq2 (wdQ_ok a) hw (Nat.le_trans ha.w (by omega)) (k := i.B_) (by omega) (by omega) (by omega)
    rw [qR_ofR] at this
    exact this
  simp only [vm_machine_pow, decide_eq_true ha.p, decide_eq_true ha.l, cond_true, ha.v, words_eq, Option.bind_some, mx_abs, mx_abs2, e0, e1, e2, hz]
  unfold pwR at q
  by_cases z : a = 0
  · rw [decide_eq_true z, cond_true]
    by_cases n : i.B_ < 0
    · rw [decide_eq_true n, cond_true, if_pos ⟨n, z⟩]
    · rw [decide_eq_false n, cond_false, if_neg (fun h => n h.1)]
      by_cases k : wdQ a * i.B_.natAbs > 4096
      · rw [decide_eq_true (by omega), cond_true, if_pos k]
      · rw [decide_eq_false (by omega), cond_false, if_neg k, q k, if_neg (fun h => n h.1)]
        rfl
  · rw [decide_eq_false z, cond_false, if_neg (fun h => z h.2)]
    by_cases k : wdQ a * i.B_.natAbs > 4096
    · rw [decide_eq_true (by omega), cond_true, if_pos k]
    · rw [decide_eq_false (by omega), cond_false, if_neg k, q k, if_neg (fun h => z h.2)]
      rfl

theorem vm_step_eq (h0 : 0 ≤ i.Op) (h9 : i.Op ≤ 9) (t0 : 0 ≤ i.To) (t1 : i.To.toNat < o1.length) (ha : 1 ≤ opk i.Op → Rd o1 i.A_ a) (hb : opk i.Op = 2 → Rd o1 i.B_ b)
    (hin : i.Op = 0 → 0 ≤ i.A_ ∧ i.A_.toNat < x.length ∧ okL 64 (nth x i.A_.toNat)) (hn : i.Op = 1 → okL 64 i.Num) (hp : i.Op = 7 → -21 ≤ i.B_ ∧ i.B_ ≤ 21) :
    vm_machine_step x rc R C o1 o2 i = some (outS o1 o2 i.To (capQ (opQ x i a b))) := by
  obtain ⟨op, to, A, B, num⟩ := i
  dsimp only at *
  have d0 : vm_does = some () := rfl
  rcases op_of op with e | e | e | e | e | e | e | e | e | e | e | e | e
  · subst e
    obtain ⟨p1, p2, p3⟩ := hin rfl
    have q := vm_input_eq (x := x) (rc := rc) (R := R) (C := C) (o1 := o1) (o2 := o2) (i := Instr.mk 0 to A B num) p1 p2 p3
    simp only [vm_machine_step, d0, Option.bind_some, q, decide_true, cond_true]
    exact tlV_ok _ o1 o2 t0 t1
  · subst e
    have q := vm_constant_eq (x := x) (rc := rc) (R := R) (C := C) (o1 := o1) (o2 := o2) (i := Instr.mk 1 to A B num) (hn rfl)
    simp only [vm_machine_step, d0, Option.bind_some, q, decide_true, cond_true, Int.reduceEq, decide_false, cond_false]
    exact tlV_ok _ o1 o2 t0 t1
  · subst e
    have q := vm_add_eq (x := x) (rc := rc) (R := R) (C := C) (o1 := o1) (o2 := o2) (i := Instr.mk 2 to A B num) (ha (by decide)) (hb (by decide))
    simp only [vm_machine_step, d0, Option.bind_some, q, decide_true, cond_true, Int.reduceEq, decide_false, cond_false]
    exact tlV_ok _ o1 o2 t0 t1
  · subst e
    have q := vm_sub_eq (x := x) (rc := rc) (R := R) (C := C) (o1 := o1) (o2 := o2) (i := Instr.mk 3 to A B num) (ha (by decide)) (hb (by decide))
    simp only [vm_machine_step, d0, Option.bind_some, q, decide_true, cond_true, Int.reduceEq, decide_false, cond_false]
    exact tlV_ok _ o1 o2 t0 t1
  · subst e
    have q := vm_mul_eq (x := x) (rc := rc) (R := R) (C := C) (o1 := o1) (o2 := o2) (i := Instr.mk 4 to A B num) (ha (by decide)) (hb (by decide))
    simp only [vm_machine_step, d0, Option.bind_some, q, decide_true, cond_true, Int.reduceEq, decide_false, cond_false]
    exact tlV_ok _ o1 o2 t0 t1
  · subst e
    have q := vm_div_eq (x := x) (rc := rc) (R := R) (C := C) (o1 := o1) (o2 := o2) (i := Instr.mk 5 to A B num) (ha (by decide)) (hb (by decide))
    simp only [vm_machine_step, d0, Option.bind_some, q, decide_true, cond_true, Int.reduceEq, decide_false, cond_false]
    by_cases z : b = 0
    · rw [if_pos z, show opQ x (Instr.mk 5 to A B num) a b = .inl 3 from if_pos z]
      exact tlV_no _ o1 o2 to rfl
    · rw [if_neg z, show opQ x (Instr.mk 5 to A B num) a b = .inr (a / b) from if_neg z]
      exact tlV_ok _ o1 o2 t0 t1
  · subst e
    have q := vm_neg_eq (x := x) (rc := rc) (R := R) (C := C) (o1 := o1) (o2 := o2) (i := Instr.mk 6 to A B num) (ha (by decide))
    simp only [vm_machine_step, d0, Option.bind_some, q, decide_true, cond_true, Int.reduceEq, decide_false, cond_false]
    exact tlV_ok _ o1 o2 t0 t1
  · subst e
    obtain ⟨p1, p2⟩ := hp rfl
    have q := vm_pow_eq (x := x) (rc := rc) (R := R) (C := C) (o1 := o1) (o2 := o2) (i := Instr.mk 7 to A B num) (ha (by decide)) p1 p2
    simp only [vm_machine_step, d0, Option.bind_some, q, decide_true, cond_true, Int.reduceEq, decide_false, cond_false]
    have e : opQ x (Instr.mk 7 to A B num) a b = if B < 0 ∧ a = 0 then .inl 3 else if wdQ a * B.natAbs > 4096 then .inl 4 else .inr (a ^ B) := rfl
    rw [e]
    by_cases z : B < 0 ∧ a = 0
    · rw [if_pos z, if_pos z]
      exact tlV_no _ o1 o2 to rfl
    · rw [if_neg z, if_neg z]
      by_cases k : wdQ a * B.natAbs > 4096
      · rw [if_pos k, if_pos k]
        exact tlV_no _ o1 o2 to rfl
      · rw [if_neg k, if_neg k]
        exact tlV_ok _ o1 o2 t0 t1
  · subst e
    have q := vm_mul_eq (x := x) (rc := rc) (R := R) (C := C) (o1 := o1) (o2 := o2) (i := Instr.mk 8 to A B num) (ha (by decide)) (hb (by decide))
    simp only [vm_machine_step, d0, Option.bind_some, q, decide_true, cond_true, Int.reduceEq, decide_false, cond_false]
    exact tlV_ok _ o1 o2 t0 t1
  · subst e
    have q := vm_add_eq (x := x) (rc := rc) (R := R) (C := C) (o1 := o1) (o2 := o2) (i := Instr.mk 9 to A B num) (ha (by decide)) (hb (by decide))
    simp only [vm_machine_step, d0, Option.bind_some, q, decide_true, cond_true, Int.reduceEq, decide_false, cond_false]
    exact tlV_ok _ o1 o2 t0 t1
  all_goals omega
theorem vm_tell_eq (h : i.Op = 10) (ha : Rd o1 i.A_ a) (t0 : 0 ≤ i.To) (t1 : i.To.toNat < o2.length) : vm_machine_step x rc R C o1 o2 i = some (0, o1, o2.set i.To.toNat (ofR a)) := by
  obtain ⟨op, to, A, B, num⟩ := i
  dsimp only at *
  subst h
  have q := ratio_Fix_eq (okL_wd ha.w) (by omega)
  rw [qR_ofR] at q
  simp only [vm_machine_step, decide_eq_true ha.p, decide_eq_true ha.l, ha.v, Option.bind_some, q, decide_eq_true t0, decide_eq_true t1, decide_true, cond_true, Int.reduceEq, decide_false, cond_false, Int.reduceBEq]
theorem opQ_inl {y : Instr} {a b : _root_.Rat} {e : Int} (h : opQ x y a b = .inl e) : e = 3 ∨ e = 4 := by
  unfold opQ at h
  split at h
  · cases h
  · split at h
    · cases h
    · split at h
      · cases h
      · split at h
        · cases h
        · split at h
          · cases h
          · split at h
            · split at h
              · cases h; exact .inl rfl
              · cases h
            · split at h
              · cases h
              · split at h
                · cases h; exact .inl rfl
                · split at h
                  · cases h; exact .inr rfl
                  · cases h
theorem opQ_err {y : Instr} {a b : _root_.Rat} {e : Int} (h : capQ (opQ x y a b) = .inl e) : e = 3 ∨ e = 4 := by
  cases hq : opQ x y a b with
  | inl e' =>
    rw [hq] at h
    cases h
    exact opQ_inl hq
  | inr q =>
    rw [hq] at h
    unfold capQ at h
    split at h
    · rename_i u; cases u
    · split at h
      · cases h; exact .inr rfl
      · cases h
end
end Go.Ab.M
end

section
/-
  PLAIN LAW: WHAT A CODE TELLS, BY ITS VALUES ALONE.
-/
namespace Go.Ab.M
open Go.Proofs Go.Ab
set_option linter.unusedVariables false
set_option linter.unusedSimpArgs false

/-- the code's run, by its values -/
def runQ (xs : List Rat) : List Instr → List _root_.Rat → List Rat → Nat → Nat → Int ⊕ (List Rat × Nat × Nat)
  | [], vs, j, n, t => .inr (j, n, t)
  | y :: ys, vs, j, n, t =>
    if y.Op = 10 then runQ xs ys (vs ++ [0]) (j.set y.To.toNat (ofR (nth vs y.A_.toNat))) (n + 1) t
    else match capQ (opQ xs y (nth vs y.A_.toNat) (nth vs y.B_.toNat)) with
      | .inl e => .inl e
      | .inr q => runQ xs ys (vs ++ [q]) j (n + 1) (if y.Op = 8 then t + 1 else t)

theorem nth_setG {α : Type} [Inhabited α] {l : List α} {i : Nat} {x : α} {j : Nat} (hi : i < l.length) : nth (l.set i x) j = if j = i then x else nth l j := by
  simp only [nth, List.getD_eq_getElem?_getD, List.getElem?_set]
  by_cases c : i = j
  · subst c; rw [if_pos rfl, if_pos rfl, if_pos hi]; rfl
  · rw [if_neg c, if_neg (Ne.symm c)]
theorem wdQ_le {q : _root_.Rat} {n : Nat} (h : szQ n q) : wdQ q ≤ n := Nat.max_le.2 ⟨h.num, h.den⟩
theorem wdQ_zero : wdQ 0 ≤ 4096 := Nat.le_trans (wdQ_le (n := 1) ⟨by rw [Nat.pow_one]; decide, by rw [Nat.pow_one]; decide⟩) (by decide)

theorem capQ_inr {r : Int ⊕ _root_.Rat} {q : _root_.Rat} (h : capQ r = .inr q) : wdQ q ≤ 4096 := by
  cases r with
  | inl e => cases h
  | inr p =>
    by_cases k : wdQ p > 4096
    · rw [show capQ (.inr p) = .inl 4 from if_pos k] at h; cases h
    · rw [show capQ (.inr p) = .inr p from if_neg k] at h; cases h; omega
/-- what registers have, ahead of instruction i -/
structure RG (c : Code) (i : Nat) (vs : List _root_.Rat) (o : List Rat) : Prop where
  vl : vs.length = i
  ol : o.length = c.Regs.toNat
  w : ∀ q, q ∈ vs → wdQ q ≤ 4096
  v : ∀ r, 0 ≤ Wl c.All r i → nth o r.toNat = ofR (nth vs (Wl c.All r i).toNat)

section
variable {c : Code} (hc : RC c) (hx : ∀ x, x ∈ c.All → okL 64 x.Num)
include hc
theorem RC.head : 1 ≤ c.Ins ∧ c.Ins ≤ 40 ∧ 1 ≤ c.Rows ∧ c.Rows ≤ 40 ∧ c.Cols = c.Ins ∧ 0 ≤ c.Regs ∧ c.Regs ≤ 100000 ∧ c.All.length ≤ 100000 := by
  have := hc.hd
  unfold headB at this
  rw [decide_eq_true_eq] at this
  exact this
theorem RC.to {i : Nat} (hi : i < c.All.length) : 0 ≤ (nth c.All i).To ∧ (nth c.All i).To < if (nth c.All i).Op = 10 then c.Rows * c.Cols else c.Regs := (insB_to (hc.ins i hi)).2.2.2.2.2
theorem RC.op {i : Nat} (hi : i < c.All.length) : 0 ≤ (nth c.All i).Op ∧ (nth c.All i).Op ≤ 10 := ⟨(insB_to (hc.ins i hi)).1, (insB_to (hc.ins i hi)).2.1⟩
/-- a register that was written is one -/
theorem RC.reg {i : Nat} (hi : i ≤ c.All.length) {r : Int} (h : 0 ≤ Wl c.All r i) : 0 ≤ r ∧ r < c.Regs := by
  obtain ⟨v, e⟩ := Int.eq_ofNat_of_zero_le h
  obtain ⟨a1, a2, a3⟩ := Wl_of e
  have := hc.to (i := v) (by omega)
  rw [if_neg a2, a3] at this
  exact this
theorem RG.rd {i : Nat} (hi : i < c.All.length) {vs : List _root_.Rat} {o : List Rat} (h : RG c i vs o) {r : Int} (hr : r ∈ rgs (nth c.All i)) : Rd o r (nth vs (Wl c.All r i).toNat) := by
  have h1 := hc.read hi hr
  have h2 := hc.reg (Nat.le_of_lt hi) h1
  have h3 := Wl_bd c.All r i
  have hl := h.ol
  have hv := h.vl
  exact ⟨h2.1, by omega, h.v r h1, h.w _ (nth_mem (by omega))⟩
theorem valI_a {i : Nat} (h : 1 ≤ opk (nth c.All i).Op) : (valI c.All i).A_ = Wl c.All (nth c.All i).A_ i := by
  have := hc
  exact if_pos h
theorem valI_b {i : Nat} (h : opk (nth c.All i).Op = 2) : (valI c.All i).B_ = Wl c.All (nth c.All i).B_ i := by
  have := hc
  exact if_pos h
omit hc in
/-- what is read by a register, or by its value -/
theorem opQ_val (xs : List Rat) (i : Nat) (h0 : 0 ≤ (nth c.All i).Op) (h9 : (nth c.All i).Op ≤ 9) (a b a' b' : _root_.Rat) (ha : 1 ≤ opk (nth c.All i).Op → a = a') (hb : opk (nth c.All i).Op = 2 → b = b') : opQ xs (nth c.All i) a b = opQ xs (valI c.All i) a' b' := by
  unfold valI
  generalize nth c.All i = y at *
  obtain ⟨op, to, A, B, num⟩ := y
  dsimp only at *
  rcases op_of op with e | e | e | e | e | e | e | e | e | e | e | e | e
  · subst e; rfl
  · subst e; rfl
  · subst e; rw [ha (by decide), hb (by decide)]; rfl
  · subst e; rw [ha (by decide), hb (by decide)]; rfl
  · subst e; rw [ha (by decide), hb (by decide)]; rfl
  · subst e; rw [ha (by decide), hb (by decide)]; rfl
  · subst e; rw [ha (by decide)]; rfl
  · subst e; rw [ha (by decide)]; rfl
  · subst e; rw [ha (by decide), hb (by decide)]; rfl
  · subst e; rw [ha (by decide), hb (by decide)]; rfl
  all_goals omega
theorem RG.tell {i : Nat} (hi : i < c.All.length) {vs : List _root_.Rat} {o : List Rat} (h : RG c i vs o) (ht : (nth c.All i).Op = 10) : RG c (i + 1) (vs ++ [0]) o := by
  have := hc
  have e : ∀ r, Wl c.All r (i + 1) = Wl c.All r i := fun r => by
    rw [Wl]
    exact if_neg (fun h => h.1 ht)
  refine ⟨by rw [List.length_append, h.vl]; rfl, h.ol, fun q hq => ?_, fun r hr => ?_⟩
  · rcases List.mem_append.1 hq with k | k
    · exact h.w q k
    · rw [List.mem_singleton.1 k]
      exact wdQ_zero
  · rw [e] at hr ⊢
    have h3 := Wl_bd c.All r i
    have hv := h.vl
    rw [h.v r hr, nth_ap (by omega)]
theorem RG.write {i : Nat} (hi : i < c.All.length) {vs : List _root_.Rat} {o : List Rat} (h : RG c i vs o) (ht : (nth c.All i).Op ≠ 10) {q : _root_.Rat} (hq : wdQ q ≤ 4096) : RG c (i + 1) (vs ++ [q]) (o.set (nth c.All i).To.toNat (ofR q)) := by
  have ht2 := hc.to hi
  rw [if_neg ht] at ht2
  have hv := h.vl
  have hol := h.ol
  refine ⟨by rw [List.length_append, h.vl]; rfl, by rw [List.length_set]; exact h.ol, fun p hp => ?_, fun r hr => ?_⟩
  · rcases List.mem_append.1 hp with k | k
    · exact h.w p k
    · rw [List.mem_singleton.1 k]; exact hq
  · by_cases k : (nth c.All i).To = r
    · have e : Wl c.All r (i + 1) = (i : Int) := by
        rw [Wl]
        exact if_pos ⟨ht, k⟩
      rw [e, Int.toNat_natCast, nth_sn hv, ← k, nth_setG (by omega), if_pos rfl]
    · have e : Wl c.All r (i + 1) = Wl c.All r i := by
        rw [Wl]
        exact if_neg (fun h => k h.2)
      rw [e] at hr ⊢
      have h3 := Wl_bd c.All r i
      have h4 := hc.reg (Nat.le_of_lt hi) hr
      rw [nth_ap (by omega), ← h.v r hr, nth_setG (by omega), if_neg (by omega)]
end

/-- a matrix of numbers that are not too long -/
def JQ (n : Nat) (j : List Rat) : Prop := j.length = n ∧ ∀ x, x ∈ j → ∃ q, x = ofR q ∧ wdQ q ≤ 4096
theorem JQ.set {n : Nat} {j : List Rat} (h : JQ n j) (k : Nat) {q : _root_.Rat} (hq : wdQ q ≤ 4096) : JQ n (j.set k (ofR q)) := ⟨by rw [List.length_set]; exact h.1, fun x hx => by
  rcases List.mem_or_eq_of_mem_set hx with e | e
  · exact h.2 x e
  · exact ⟨q, e, hq⟩⟩

/-- the loop's end, by the run's -/
def EndQ (c : Code) (R : Option (Int ⊕ (List Rat × Nat × Nat × List Rat))) : Int ⊕ (List Rat × Nat × Nat) → Prop
  | .inl e => R = some (.inl e)
  | .inr y => ∃ o, R = some (.inr (o, y.2.1, y.2.2, y.1)) ∧ JQ (c.Rows * c.Cols).toNat y.1

theorem run_loop {c : Code} (hc : RC c) (hx : ∀ x, x ∈ c.All → okL 64 x.Num) {xs : List Rat} (hl : (xs.length : Int) = c.Ins) (hxs : ∀ j, j < xs.length → okL 64 (nth xs j)) :
    ∀ (k i n : Nat) (vs : List _root_.Rat) (o jac : List Rat) (a t : Nat), i + k = c.All.length → RG c i vs o → JQ (c.Rows * c.Cols).toNat jac → a = i → t ≤ i → k < n →
    EndQ c (loopN (fun (σ : Nat × List Rat × Nat × Nat × List Rat) => vm_Run_l_5_rd c xs σ.1 σ.2.1 σ.2.2.1 σ.2.2.2.1 σ.2.2.2.2) n (i, o, a, t, jac)) (runQ xs ((List.range' i k).map (valI c.All)) vs jac a t)
  | k, i, 0, vs, o, jac, a, t, _, _, _, _, _, h => by omega
  | 0, i, n + 1, vs, o, jac, a, t, hi, hg, hj, ha, ht, _ => by
    rw [loopN_at (y := .inr (.inr (o, a, t, jac))) (by
      simp only [vm_Run_l_5_rd, Bool.cond_decide]
      rw [if_neg (by omega)])]
    exact ⟨o, rfl, hj⟩
  | k + 1, i, n + 1, vs, o, jac, a, t, hi, hg, hj, ha, ht, hk => by
    have hil : i < c.All.length := by omega
    have hcl := hc.len
    have hhd := hc.head
    have ha2 : i = a := ha.symm
    subst ha2
    have hto := hc.to hil
    have hop := hc.op hil
    have hins := insB_to (hc.ins i hil)
    have i1 : inK .i64 (((i : Nat) : Int) + 1) = true := inK_i64 (by omega) (by omega)
    have i2 : inK .i64 (((t : Nat) : Int) + 1) = true := inK_i64 (by omega) (by omega)
    have g1 : ((i : Nat) : Int) < ((c.All.length : Nat) : Int) := by omega
    rw [List.range'_succ, List.map_cons, runQ]
    have hvo : (valI c.All i).Op = (nth c.All i).Op := rfl
    rw [hvo]
    by_cases e : (nth c.All i).Op = 10
    · have hk1 : 1 ≤ opk (nth c.All i).Op := by rw [e]; decide
      have hA := hg.rd hc hil (r := (nth c.All i).A_) (rgs_mem.2 (.inl ⟨hk1, rfl⟩))
      rw [if_pos e] at hto
      have hjl := hj.1
      have hs := vm_tell_eq (x := xs) (rc := c.Regs.toNat) (R := c.Rows) (C := c.Cols) (o1 := o) (o2 := jac) e hA hto.1 (by omega)
      have e8 : ((nth c.All i).Op == 8) = false := by rw [e]; rfl
      have hva := valI_a hc hk1
      have hvt : (valI c.All i).To = (nth c.All i).To := if_pos e
      rw [if_pos e, hva, hvt]
      rw [loopN_at (y := .inl (i + 1, o, i + 1, t, jac.set (nth c.All i).To.toNat (ofR (nth vs (Wl c.All (nth c.All i).A_ i).toNat)))) (by
        simp only [vm_Run_l_5_rd, decide_eq_true g1, decide_eq_true hil, cond_true, hs, Option.bind_some, bne_self_eq_false, cond_false, i1, e8])]
      exact run_loop hc hx hl hxs k (i + 1) n _ o _ (i + 1) t (by omega) (hg.tell hc hil e) (hj.set _ hA.w) rfl (by omega) (by omega)
    · have h9 : (nth c.All i).Op ≤ 9 := by omega
      rw [if_neg e] at hto
      have hol := hg.ol
      have hA : 1 ≤ opk (nth c.All i).Op → Rd o (nth c.All i).A_ (nth vs (Wl c.All (nth c.All i).A_ i).toNat) := fun h => hg.rd hc hil (rgs_mem.2 (.inl ⟨h, rfl⟩))
      have hB : opk (nth c.All i).Op = 2 → Rd o (nth c.All i).B_ (nth vs (Wl c.All (nth c.All i).B_ i).toNat) := fun h => hg.rd hc hil (rgs_mem.2 (.inr ⟨h, rfl⟩))
      have hin : (nth c.All i).Op = 0 → 0 ≤ (nth c.All i).A_ ∧ (nth c.All i).A_.toNat < xs.length ∧ okL 64 (nth xs (nth c.All i).A_.toNat) := fun h => by
        have q := hins.2.2.2.1
        unfold aB at q
        rw [if_pos h, Bool.and_eq_true, decide_eq_true_eq, decide_eq_true_eq] at q
        exact ⟨q.1, by omega, hxs _ (by omega)⟩
      have hp : (nth c.All i).Op = 7 → -21 ≤ (nth c.All i).B_ ∧ (nth c.All i).B_ ≤ 21 := fun h => by
        have q := hins.2.2.2.2.1
        unfold bB at q
        rw [if_neg (by rw [h]; decide), if_pos h, Bool.and_eq_true, decide_eq_true_eq, decide_eq_true_eq] at q
        exact q
      have hs := vm_step_eq (x := xs) (rc := c.Regs.toNat) (R := c.Rows) (C := c.Cols) (o1 := o) (o2 := jac) hop.1 h9 hto.1 (by omega) hA hB hin (fun _ => hx _ (nth_mem hil)) hp
      rw [opQ_val xs i hop.1 h9 _ _ (nth vs (valI c.All i).A_.toNat) (nth vs (valI c.All i).B_.toNat) (fun h => by rw [valI_a hc h]) (fun h => by rw [valI_b hc h])] at hs
      rw [if_neg e]
      cases hq : capQ (opQ xs (valI c.All i) (nth vs (valI c.All i).A_.toNat) (nth vs (valI c.All i).B_.toNat)) with
      | inl er =>
        rw [hq] at hs
        have hne : (er != 0) = true := by rcases opQ_err hq with h | h <;> rw [h] <;> rfl
        rw [loopN_at (y := .inr (.inl er)) (by
          simp only [vm_Run_l_5_rd, decide_eq_true g1, decide_eq_true hil, cond_true, hs, outS, Option.bind_some, hne])]
        exact rfl
      | inr q =>
        rw [hq] at hs
        have hw : wdQ q ≤ 4096 := capQ_inr hq
        by_cases e8 : (nth c.All i).Op = 8
        · have e8' : ((nth c.All i).Op == 8) = true := beq_iff_eq.2 e8
          rw [if_pos e8]
          rw [loopN_at (y := .inl (i + 1, o.set (nth c.All i).To.toNat (ofR q), i + 1, t + 1, jac)) (by
            simp only [vm_Run_l_5_rd, decide_eq_true g1, decide_eq_true hil, cond_true, hs, outS, Option.bind_some, bne_self_eq_false, cond_false, i1, i2, e8'])]
          exact run_loop hc hx hl hxs k (i + 1) n _ _ _ (i + 1) (t + 1) (by omega) (hg.write hc hil e hw) hj rfl (by omega) (by omega)
        · have e8' : ((nth c.All i).Op == 8) = false := beq_eq_false_iff_ne.2 e8
          rw [if_neg e8]
          rw [loopN_at (y := .inl (i + 1, o.set (nth c.All i).To.toNat (ofR q), i + 1, t, jac)) (by
            simp only [vm_Run_l_5_rd, decide_eq_true g1, decide_eq_true hil, cond_true, hs, outS, Option.bind_some, bne_self_eq_false, cond_false, i1, e8'])]
          exact run_loop hc hx hl hxs k (i + 1) n _ _ _ (i + 1) t (by omega) (hg.write hc hil e hw) hj rfl (by omega) (by omega)

/-- a code's run -/
def runC (c : Code) (xs : List Rat) : Int ⊕ (List Rat × Nat × Nat) := runQ xs ((List.range' 0 c.All.length).map (valI c.All)) [] (List.replicate (c.Rows * c.Cols).toNat (ofR 0)) 0 0
def told (c : Code) : Int ⊕ (List Rat × Nat × Nat) → Jac × S_All_Times × Int
  | .inl e => (Jac.mk 0 0 [], S_All_Times.mk 0 0, e)
  | .inr y => (Jac.mk c.Rows c.Cols y.1, S_All_Times.mk ((y.2.1 : Nat) : Int) ((y.2.2 : Nat) : Int), 0)
theorem zeros_eq {c : Code} (h1 : 1 ≤ c.Rows ∧ c.Rows ≤ 40) (h2 : 1 ≤ c.Cols ∧ c.Cols ≤ 40) (xs : List Rat) : vm_Run_l c xs 0 [] = some (List.replicate (c.Rows * c.Cols).toNat (ofR 0)) := by
  obtain ⟨r, er⟩ := Int.eq_ofNat_of_zero_le (show 0 ≤ c.Rows by omega)
  obtain ⟨s, es⟩ := Int.eq_ofNat_of_zero_le (show 0 ≤ c.Cols by omega)
  have e : c.Rows * c.Cols = ((r * s : Nat) : Int) := by rw [er, es, Int.natCast_mul]
  have hb : r * s ≤ 40 * 40 := Nat.mul_le_mul (by omega) (by omega)
  have hof : ratio_Of 0 = some (ofR 0) := ratio_Of_eq (z := 0) (by omega) (by omega)
  rw [e, Int.toNat_natCast]
  unfold vm_Run_l
  refine loop_run (round := fun (σ : Nat × List Rat) => vm_Run_l_rd c xs σ.1 σ.2) (fun i => (i, List.replicate i (ofR 0))) (r * s) (fun i hi => ?_) ?_ (by simp only [FU]; omega)
  · have g1 : ((i : Nat) : Int) < c.Rows * c.Cols := by omega
    have g2 : (List.replicate i (ofR 0)).length + 1 ≤ 2147483648 := by rw [List.length_replicate]; omega
    have g3 : inK .i64 (((i : Nat) : Int) + 1) = true := inK_i64 (by omega) (by omega)
    simp only [vm_Run_l_rd, decide_eq_true g1, cond_true, hof, Option.bind_some, decide_eq_true g2, g3, List.replicate_succ']
  · have g1 : ¬ ((r * s : Nat) : Int) < c.Rows * c.Cols := by omega
    simp only [vm_Run_l_rd, decide_eq_false g1, cond_false]
theorem vm_Run_eq {c : Code} (hc : RC c) (hx : ∀ x, x ∈ c.All → okL 64 x.Num) {xs : List Rat} (hl : (xs.length : Int) = c.Ins) (hxs : ∀ j, j < xs.length → okL 64 (nth xs j)) :
    vm_Run c xs = some (told c (runC c xs)) ∧ ∀ y, runC c xs = .inr y → JQ (c.Rows * c.Cols).toNat y.1 := by
  have hr := vm_Right_eq hx
  rw [rightB_iff.2 hc] at hr
  have hh := hc.head
  obtain ⟨r, er⟩ := Int.eq_ofNat_of_zero_le (show 0 ≤ c.Rows by omega)
  obtain ⟨s, es⟩ := Int.eq_ofNat_of_zero_le (show 0 ≤ c.Cols by omega)
  have e : c.Rows * c.Cols = ((r * s : Nat) : Int) := by rw [er, es, Int.natCast_mul]
  have hb : r * s ≤ 40 * 40 := Nat.mul_le_mul (by omega) (by omega)
  have hb1 : 0 < r * s := Nat.mul_pos (by omega) (by omega)
  have hz := zeros_eq ⟨hh.2.2.1, hh.2.2.2.1⟩ (show 1 ≤ c.Cols ∧ c.Cols ≤ 40 by omega) xs
  have g1 : (((xs.length : Nat) : Int) != c.Ins) = false := by rw [hl]; exact bne_self_eq_false _
  have g2 : 0 ≤ c.Regs := hh.2.2.2.2.2.1
  have g3 : c.Regs.toNat ≤ 2147483648 := by omega
  have g4 : inK .i64 (c.Rows * c.Cols) = true := inK_i64 (by omega) (by omega)
  have hne : (List.replicate (c.Rows * c.Cols).toNat (ofR 0)).isEmpty = false := by
    rw [e, Int.toNat_natCast]
    obtain ⟨m, em⟩ : ∃ m, r * s = m + 1 := ⟨r * s - 1, by omega⟩
    rw [em]; rfl
  have key := run_loop hc hx hl hxs c.All.length 0 FU [] (List.replicate c.Regs.toNat (Rat.mk false [] [])) (List.replicate (c.Rows * c.Cols).toNat (ofR 0)) 0 0 (by omega)
    ⟨rfl, List.length_replicate, (fun q hq => by cases hq), fun r hr => by have := Wl_bd c.All r 0; omega⟩
    ⟨List.length_replicate, fun x hx => ⟨0, List.eq_of_mem_replicate hx, wdQ_zero⟩⟩ rfl (by omega) (by have := hc.len; simp only [FU]; omega)
  have hfin : ∀ R, vm_Run_l_5 c xs 0 (List.replicate c.Regs.toNat (Rat.mk false [] [])) 0 0 (List.replicate (c.Rows * c.Cols).toNat (ofR 0)) = R → vm_Run c xs = R.bind fun y_ => caseS y_ (fun x2 =>
          some (Jac.mk 0 0 [], S_All_Times.mk 0 0, x2))
        (fun x3 =>
          some (Jac.mk c.Rows c.Cols x3.2.2.2, S_All_Times.mk ((x3.2.1 : Nat) : Int) ((x3.2.2.1 : Nat) : Int), 0)) := fun R h => by
    simp only [vm_Run, hr, Option.bind_some, Bool.not_true, cond_false, g1, decide_eq_true g2, decide_eq_true g3, g4, cond_true, hz, hne, h]
  unfold runC
  revert key
  cases hq : runQ xs ((List.range' 0 c.All.length).map (valI c.All)) [] (List.replicate (c.Rows * c.Cols).toNat (ofR 0)) 0 0 with
  | inl er =>
    intro key
    refine ⟨?_, fun y h => by cases h⟩
    rw [hfin _ key]
    rfl
  | inr y =>
    rintro ⟨o, ko, kj⟩
    refine ⟨?_, fun z h => by cases h; exact kj⟩
    rw [hfin _ ko]
    rfl
end Go.Ab.M
end

section
/-
  PLAIN LAW: A CODE'S WEIGHT, BY ITS VALUES ALONE; AS MANY REGISTERS AS VALUES ARE ALIVE AT ONCE ARE NO MORE THAN THERE WERE.
-/
namespace Go.Ab.M
open Go.Proofs Go.Ab
set_option linter.unusedVariables false
set_option linter.unusedSimpArgs false

/-! ### weights -/
def wtQ (y : Instr) (a b : Int) : Int := if opk y.Op = 2 then a + b else if y.Op = 7 then a * mxI (mxI 1 y.B_) (0 - y.B_) else if opk y.Op = 1 then a else 1
def wtC (y : Instr) (a b : Int) : Int := mnI (wtQ y a b) 1000000
def heavyQ : List Instr → List Int → Int → Int
  | [], ws, m => m
  | y :: ys, ws, m => if y.Op = 10 then heavyQ ys (ws ++ [0]) m else heavyQ ys (ws ++ [wtC y (nth ws y.A_.toNat) (nth ws y.B_.toNat)]) (mxI m (wtC y (nth ws y.A_.toNat) (nth ws y.B_.toNat)))

/-- a register's weight that is read -/
structure Rw (o : List Int) (r : Int) : Prop where
  p : 0 ≤ r
  l : r.toNat < o.length
  lo : 0 ≤ nth o r.toNat
  hi : nth o r.toNat ≤ 1000000
theorem pw_in {B : Int} (h1 : -21 ≤ B) (h2 : B ≤ 21) : 1 ≤ mxI (mxI 1 B) (0 - B) ∧ mxI (mxI 1 B) (0 - B) ≤ 21 := by
  unfold mxI
  rw [cond_true, cond_true]
  constructor <;> split <;> (try split) <;> omega
theorem wtQ_nn {y : Instr} {a b : Int} (ha : 0 ≤ a) (hb : 0 ≤ b) (hp : y.Op = 7 → -21 ≤ y.B_ ∧ y.B_ ≤ 21) : 0 ≤ wtQ y a b := by
  unfold wtQ
  split
  · omega
  · split
    · rename_i h
      have := pw_in (hp h).1 (hp h).2
      exact Int.mul_nonneg ha (by omega)
    · split <;> omega
theorem wtC_bd {y : Instr} {a b : Int} (ha : 0 ≤ a) (hb : 0 ≤ b) (hp : y.Op = 7 → -21 ≤ y.B_ ∧ y.B_ ≤ 21) : 0 ≤ wtC y a b ∧ wtC y a b ≤ 1000000 := by
  have := wtQ_nn ha hb hp
  unfold wtC mnI
  rw [cond_false]
  constructor <;> split <;> omega

section
variable {c : Code} {m : Int} {i : Nat} {o : List Int}
theorem set_ns {k : Nat} {w : Int} (h : k < o.length) : nth (o.set k w) k = w := by rw [nth_setI h, if_pos rfl]
theorem set_sl {k : Nat} {w : Int} {p : Nat} (h : p < o.length) : decide (p < (o.set k w).length) = true := by rw [List.length_set]; exact decide_eq_true h
section
variable (g0 : i < c.All.length) (g1 : ((i : Nat) : Int) < ((c.All.length : Nat) : Int)) (i1 : inK .i64 (((i : Nat) : Int) + 1) = true) (t0 : 0 ≤ (nth c.All i).To) (t1 : (nth c.All i).To.toNat < o.length) (n : ((nth c.All i).Op != 10) = true)
include g0 g1 i1 t0 t1 n
theorem hv_two (s : vm_shapeOf (nth c.All i).Op = some (S_a_b_power.mk true true false, true)) (h2 : opk (nth c.All i).Op = 2) (a : Rw o (nth c.All i).A_) (b : Rw o (nth c.All i).B_) :
    vm_Heavy_l_rd c m i o = some (.inl (mxI m (wtC (nth c.All i) (nth o (nth c.All i).A_.toNat) (nth o (nth c.All i).B_.toNat)), i + 1, o.set (nth c.All i).To.toNat (wtC (nth c.All i) (nth o (nth c.All i).A_.toNat) (nth o (nth c.All i).B_.toNat)))) := by
  have q1 : inK .i64 (nth o (nth c.All i).A_.toNat + nth o (nth c.All i).B_.toNat) = true := by have := a.lo; have := a.hi; have := b.lo; have := b.hi; exact inK_i64 (by omega) (by omega)
  have e : wtC (nth c.All i) (nth o (nth c.All i).A_.toNat) (nth o (nth c.All i).B_.toNat) = mnI (nth o (nth c.All i).A_.toNat + nth o (nth c.All i).B_.toNat) 1000000 := by unfold wtC wtQ; rw [if_pos h2]
  rw [e]
  simp only [vm_Heavy_l_rd, s, Option.bind_some, cond_true, cond_false, n, decide_eq_true g0, decide_eq_true g1, i1, decide_eq_true a.p, decide_eq_true a.l, decide_eq_true b.p, decide_eq_true b.l, decide_eq_true t0, decide_eq_true t1, q1, set_sl t1, set_ns t1]
theorem hv_one (s : vm_shapeOf (nth c.All i).Op = some (S_a_b_power.mk true false false, true)) (h2 : opk (nth c.All i).Op = 1) (h7 : (nth c.All i).Op ≠ 7) (a : Rw o (nth c.All i).A_) :
    vm_Heavy_l_rd c m i o = some (.inl (mxI m (wtC (nth c.All i) (nth o (nth c.All i).A_.toNat) (nth o (nth c.All i).B_.toNat)), i + 1, o.set (nth c.All i).To.toNat (wtC (nth c.All i) (nth o (nth c.All i).A_.toNat) (nth o (nth c.All i).B_.toNat)))) := by
  have e : wtC (nth c.All i) (nth o (nth c.All i).A_.toNat) (nth o (nth c.All i).B_.toNat) = mnI (nth o (nth c.All i).A_.toNat) 1000000 := by unfold wtC wtQ; rw [if_neg (by rw [h2]; decide), if_neg h7, if_pos h2]
  rw [e]
  simp only [vm_Heavy_l_rd, s, Option.bind_some, cond_true, cond_false, n, decide_eq_true g0, decide_eq_true g1, i1, decide_eq_true a.p, decide_eq_true a.l, decide_eq_true t0, decide_eq_true t1, set_sl t1, set_ns t1]
theorem hv_none (s : vm_shapeOf (nth c.All i).Op = some (S_a_b_power.mk false false false, true)) (h2 : opk (nth c.All i).Op = 0) (h7 : (nth c.All i).Op ≠ 7) :
    vm_Heavy_l_rd c m i o = some (.inl (mxI m (wtC (nth c.All i) (nth o (nth c.All i).A_.toNat) (nth o (nth c.All i).B_.toNat)), i + 1, o.set (nth c.All i).To.toNat (wtC (nth c.All i) (nth o (nth c.All i).A_.toNat) (nth o (nth c.All i).B_.toNat)))) := by
  have e : wtC (nth c.All i) (nth o (nth c.All i).A_.toNat) (nth o (nth c.All i).B_.toNat) = mnI 1 1000000 := by unfold wtC wtQ; rw [if_neg (by rw [h2]; decide), if_neg h7, if_neg (by rw [h2]; decide)]
  rw [e]
  simp only [vm_Heavy_l_rd, s, Option.bind_some, cond_true, cond_false, n, decide_eq_true g0, decide_eq_true g1, i1, decide_eq_true t0, decide_eq_true t1, set_sl t1, set_ns t1]
theorem hv_pow (s : vm_shapeOf (nth c.All i).Op = some (S_a_b_power.mk true false true, true)) (h7 : (nth c.All i).Op = 7) (a : Rw o (nth c.All i).A_) (p1 : -21 ≤ (nth c.All i).B_) (p2 : (nth c.All i).B_ ≤ 21) :
    vm_Heavy_l_rd c m i o = some (.inl (mxI m (wtC (nth c.All i) (nth o (nth c.All i).A_.toNat) (nth o (nth c.All i).B_.toNat)), i + 1, o.set (nth c.All i).To.toNat (wtC (nth c.All i) (nth o (nth c.All i).A_.toNat) (nth o (nth c.All i).B_.toNat)))) := by
  have pw := pw_in p1 p2
  have e : wtC (nth c.All i) (nth o (nth c.All i).A_.toNat) (nth o (nth c.All i).B_.toNat) = mnI (nth o (nth c.All i).A_.toNat * mxI (mxI 1 (nth c.All i).B_) (0 - (nth c.All i).B_)) 1000000 := by unfold wtC wtQ; rw [if_neg (by rw [h7]; decide), if_pos h7]
  rw [e]
  generalize hK : mxI (mxI 1 (nth c.All i).B_) (0 - (nth c.All i).B_) = K at pw e ⊢
  have q0 : inK .i64 (0 - (nth c.All i).B_) = true := inK_i64 (by omega) (by omega)
  have m0 : 0 ≤ nth o (nth c.All i).A_.toNat * K := Int.mul_nonneg a.lo (by omega)
  have m1 : nth o (nth c.All i).A_.toNat * K ≤ 1000000 * 21 := Int.mul_le_mul a.hi pw.2 (by omega) (by omega)
  have q1 : inK .i64 (nth o (nth c.All i).A_.toNat * K) = true := inK_i64 (by omega) (by omega)
  unfold vm_Heavy_l_rd
  rw [hK]
  simp only [s, Option.bind_some, cond_true, cond_false, n, decide_eq_true g0, decide_eq_true g1, i1, decide_eq_true a.p, decide_eq_true a.l, decide_eq_true t0, decide_eq_true t1, q0, q1, set_sl t1, set_ns t1]
end
theorem hv_tell (g0 : i < c.All.length) (g1 : ((i : Nat) : Int) < ((c.All.length : Nat) : Int)) (i1 : inK .i64 (((i : Nat) : Int) + 1) = true) (h : (nth c.All i).Op = 10) (a : Rw o (nth c.All i).A_) : vm_Heavy_l_rd c m i o = some (.inl (m, i + 1, o)) := by
  have s : vm_shapeOf (nth c.All i).Op = some (S_a_b_power.mk true false false, true) := by rw [h]; rfl
  have n : ((nth c.All i).Op != 10) = false := by rw [h]; rfl
  simp only [vm_Heavy_l_rd, s, Option.bind_some, cond_true, cond_false, n, decide_eq_true g0, decide_eq_true g1, i1, decide_eq_true a.p, decide_eq_true a.l]
theorem heavy_step (hi : i < c.All.length) (hN : c.All.length ≤ 100000) (h0 : 0 ≤ (nth c.All i).Op) (h10 : (nth c.All i).Op ≤ 10) (ha : 1 ≤ opk (nth c.All i).Op → Rw o (nth c.All i).A_) (hb : opk (nth c.All i).Op = 2 → Rw o (nth c.All i).B_)
    (hp : (nth c.All i).Op = 7 → -21 ≤ (nth c.All i).B_ ∧ (nth c.All i).B_ ≤ 21) (ht : (nth c.All i).Op ≠ 10 → 0 ≤ (nth c.All i).To ∧ (nth c.All i).To.toNat < o.length) :
    vm_Heavy_l_rd c m i o = some (.inl (if (nth c.All i).Op = 10 then (m, i + 1, o) else (mxI m (wtC (nth c.All i) (nth o (nth c.All i).A_.toNat) (nth o (nth c.All i).B_.toNat)), i + 1, o.set (nth c.All i).To.toNat (wtC (nth c.All i) (nth o (nth c.All i).A_.toNat) (nth o (nth c.All i).B_.toNat))))) := by
  have g1 : ((i : Nat) : Int) < ((c.All.length : Nat) : Int) := by omega
  have i1 : inK .i64 (((i : Nat) : Int) + 1) = true := inK_i64 (by omega) (by omega)
  by_cases h : (nth c.All i).Op = 10
  · rw [if_pos h]
    exact hv_tell hi g1 i1 h (ha (by rw [h]; decide))
  · rw [if_neg h]
    obtain ⟨t0, t1⟩ := ht h
    have n : ((nth c.All i).Op != 10) = true := bne_iff_ne.2 h
    rcases op_of (nth c.All i).Op with e | e | e | e | e | e | e | e | e | e | e | e | e
    · exact hv_none hi g1 i1 t0 t1 n (by rw [e]; rfl) (by rw [e]; decide) (by omega)
    · exact hv_none hi g1 i1 t0 t1 n (by rw [e]; rfl) (by rw [e]; decide) (by omega)
    · exact hv_two hi g1 i1 t0 t1 n (by rw [e]; rfl) (by rw [e]; decide) (ha (by rw [e]; decide)) (hb (by rw [e]; decide))
    · exact hv_two hi g1 i1 t0 t1 n (by rw [e]; rfl) (by rw [e]; decide) (ha (by rw [e]; decide)) (hb (by rw [e]; decide))
    · exact hv_two hi g1 i1 t0 t1 n (by rw [e]; rfl) (by rw [e]; decide) (ha (by rw [e]; decide)) (hb (by rw [e]; decide))
    · exact hv_two hi g1 i1 t0 t1 n (by rw [e]; rfl) (by rw [e]; decide) (ha (by rw [e]; decide)) (hb (by rw [e]; decide))
    · exact hv_one hi g1 i1 t0 t1 n (by rw [e]; rfl) (by rw [e]; decide) (by omega) (ha (by rw [e]; decide))
    · exact hv_pow hi g1 i1 t0 t1 n (by rw [e]; rfl) e (ha (by rw [e]; decide)) (hp e).1 (hp e).2
    · exact hv_two hi g1 i1 t0 t1 n (by rw [e]; rfl) (by rw [e]; decide) (ha (by rw [e]; decide)) (hb (by rw [e]; decide))
    · exact hv_two hi g1 i1 t0 t1 n (by rw [e]; rfl) (by rw [e]; decide) (ha (by rw [e]; decide)) (hb (by rw [e]; decide))
    all_goals omega
end

/-- what registers weigh, ahead of instruction i -/
structure RH (c : Code) (i : Nat) (ws : List Int) (o : List Int) : Prop where
  vl : ws.length = i
  ol : o.length = c.Regs.toNat
  w : ∀ q, q ∈ ws → 0 ≤ q ∧ q ≤ 1000000
  v : ∀ r, 0 ≤ Wl c.All r i → nth o r.toNat = nth ws (Wl c.All r i).toNat
section
variable {c : Code} (hc : RC c)
include hc
theorem RH.rd {i : Nat} (hi : i < c.All.length) {ws o : List Int} (h : RH c i ws o) {r : Int} (hr : r ∈ rgs (nth c.All i)) : Rw o r ∧ nth o r.toNat = nth ws (Wl c.All r i).toNat := by
  have h1 := hc.read hi hr
  have h2 := hc.reg (Nat.le_of_lt hi) h1
  have h3 := Wl_bd c.All r i
  have hl := h.ol
  have hv := h.vl
  have e := h.v r h1
  have b := h.w _ (nth_mem (l := ws) (i := (Wl c.All r i).toNat) (by omega))
  exact ⟨⟨h2.1, by omega, by rw [e]; exact b.1, by rw [e]; exact b.2⟩, e⟩
theorem RH.tell {i : Nat} (hi : i < c.All.length) {ws o : List Int} (h : RH c i ws o) (ht : (nth c.All i).Op = 10) : RH c (i + 1) (ws ++ [0]) o := by
  have := hc
  have e : ∀ r, Wl c.All r (i + 1) = Wl c.All r i := fun r => by
    rw [Wl]
    exact if_neg (fun h => h.1 ht)
  refine ⟨by rw [List.length_append, h.vl]; rfl, h.ol, fun q hq => ?_, fun r hr => ?_⟩
  · rcases List.mem_append.1 hq with k | k
    · exact h.w q k
    · rw [List.mem_singleton.1 k]; omega
  · rw [e] at hr ⊢
    have h3 := Wl_bd c.All r i
    have hv := h.vl
    rw [h.v r hr, nth_ap (by omega)]
theorem RH.write {i : Nat} (hi : i < c.All.length) {ws o : List Int} (h : RH c i ws o) (ht : (nth c.All i).Op ≠ 10) {q : Int} (hq : 0 ≤ q ∧ q ≤ 1000000) : RH c (i + 1) (ws ++ [q]) (o.set (nth c.All i).To.toNat q) := by
  have ht2 := hc.to hi
  rw [if_neg ht] at ht2
  have hv := h.vl
  have hol := h.ol
  refine ⟨by rw [List.length_append, h.vl]; rfl, by rw [List.length_set]; exact h.ol, fun p hp => ?_, fun r hr => ?_⟩
  · rcases List.mem_append.1 hp with k | k
    · exact h.w p k
    · rw [List.mem_singleton.1 k]; exact hq
  · by_cases k : (nth c.All i).To = r
    · have e : Wl c.All r (i + 1) = (i : Int) := by
        rw [Wl]
        exact if_pos ⟨ht, k⟩
      rw [e, Int.toNat_natCast, nth_sn hv, ← k, nth_setI (by omega), if_pos rfl]
    · have e : Wl c.All r (i + 1) = Wl c.All r i := by
        rw [Wl]
        exact if_neg (fun h => k h.2)
      rw [e] at hr ⊢
      have h3 := Wl_bd c.All r i
      have h4 := hc.reg (Nat.le_of_lt hi) hr
      rw [nth_ap (by omega), ← h.v r hr, nth_setI (by omega), if_neg (by omega)]
theorem wtC_val {i : Nat} {a b a' b' : Int} (ha : 1 ≤ opk (nth c.All i).Op → a = a') (hb : opk (nth c.All i).Op = 2 → b = b') : wtC (nth c.All i) a b = wtC (valI c.All i) a' b' := by
  have := hc
  have h1 : (valI c.All i).Op = (nth c.All i).Op := rfl
  unfold wtC wtQ
  rw [h1]
  by_cases h2 : opk (nth c.All i).Op = 2
  · rw [if_pos h2, if_pos h2, ha (by omega), hb h2]
  · have e2 : (valI c.All i).B_ = (nth c.All i).B_ := if_neg h2
    rw [if_neg h2, if_neg h2, e2]
    by_cases h7 : (nth c.All i).Op = 7
    · rw [if_pos h7, if_pos h7, ha (by rw [h7]; decide)]
    · rw [if_neg h7, if_neg h7]
      by_cases k : opk (nth c.All i).Op = 1
      · rw [if_pos k, if_pos k, ha (by omega)]
      · rw [if_neg k, if_neg k]
theorem heavy_loop : ∀ (k i n : Nat) (ws o : List Int) (m : Int), i + k = c.All.length → RH c i ws o → k < n →
    loopN (fun (σ : Int × Nat × List Int) => vm_Heavy_l_rd c σ.1 σ.2.1 σ.2.2) n (m, i, o) = some (heavyQ ((List.range' i k).map (valI c.All)) ws m)
  | k, i, 0, ws, o, m, _, _, h => by omega
  | 0, i, n + 1, ws, o, m, hi, hg, _ => by
    rw [loopN_at (y := .inr m) (by
      simp only [vm_Heavy_l_rd, Bool.cond_decide]
      rw [if_neg (by omega)])]
    rfl
  | k + 1, i, n + 1, ws, o, m, hi, hg, hk => by
    have hil : i < c.All.length := by omega
    have hcl := hc.len
    have hto := hc.to hil
    have hop := hc.op hil
    have hins := insB_to (hc.ins i hil)
    have hA : 1 ≤ opk (nth c.All i).Op → Rw o (nth c.All i).A_ ∧ nth o (nth c.All i).A_.toNat = nth ws (Wl c.All (nth c.All i).A_ i).toNat := fun h => hg.rd hc hil (rgs_mem.2 (.inl ⟨h, rfl⟩))
    have hB : opk (nth c.All i).Op = 2 → Rw o (nth c.All i).B_ ∧ nth o (nth c.All i).B_.toNat = nth ws (Wl c.All (nth c.All i).B_ i).toNat := fun h => hg.rd hc hil (rgs_mem.2 (.inr ⟨h, rfl⟩))
    have hp : (nth c.All i).Op = 7 → -21 ≤ (nth c.All i).B_ ∧ (nth c.All i).B_ ≤ 21 := fun h => by
      have q := hins.2.2.2.2.1
      unfold bB at q
      rw [if_neg (by rw [h]; decide), if_pos h, Bool.and_eq_true, decide_eq_true_eq, decide_eq_true_eq] at q
      exact q
    have hol := hg.ol
    have hrd := heavy_step (m := m) (o := o) hil hcl hop.1 hop.2 (fun h => (hA h).1) (fun h => (hB h).1) hp (fun h => by rw [if_neg h] at hto; exact ⟨hto.1, by omega⟩)
    rw [List.range'_succ, List.map_cons, heavyQ]
    have hvo : (valI c.All i).Op = (nth c.All i).Op := rfl
    rw [hvo]
    by_cases e : (nth c.All i).Op = 10
    · rw [if_pos e] at hrd
      rw [if_pos e, loopN_at hrd]
      exact heavy_loop k (i + 1) n _ o m (by omega) (hg.tell hc hil e) (by omega)
    · rw [if_neg e] at hrd
      have ev := wtC_val hc (i := i) (a := nth o (nth c.All i).A_.toNat) (b := nth o (nth c.All i).B_.toNat) (a' := nth ws (valI c.All i).A_.toNat) (b' := nth ws (valI c.All i).B_.toNat)
        (fun h => by rw [valI_a hc h]; exact (hA h).2) (fun h => by rw [valI_b hc h]; exact (hB h).2)
      have hwn : ∀ j : Nat, 0 ≤ nth ws j := fun j => by
        by_cases q : j < ws.length
        · exact (hg.w _ (nth_mem q)).1
        · have e : nth ws j = 0 := by
            unfold nth
            rw [List.getD_eq_getElem?_getD, List.getElem?_eq_none (by omega)]
            rfl
          omega
      have hbd := wtC_bd (y := valI c.All i) (hwn (valI c.All i).A_.toNat) (hwn (valI c.All i).B_.toNat) (fun h => by
        have h7 : (nth c.All i).Op = 7 := h
        have e2 : (valI c.All i).B_ = (nth c.All i).B_ := if_neg (by rw [h7]; decide)
        rw [e2]; exact hp h7)
      rw [ev] at hrd
      rw [if_neg e, loopN_at hrd]
      exact heavy_loop k (i + 1) n _ _ _ (by omega) (hg.write hc hil e hbd) (by omega)
theorem vm_Heavy_eq (hx : ∀ x, x ∈ c.All → okL 64 x.Num) : vm_Heavy c = some (heavyQ ((List.range' 0 c.All.length).map (valI c.All)) [] 0) := by
  have hr := vm_Right_eq hx
  rw [rightB_iff.2 hc] at hr
  have hh := hc.head
  have g2 : 0 ≤ c.Regs := hh.2.2.2.2.2.1
  have g3 : c.Regs.toNat ≤ 2147483648 := by omega
  have key := heavy_loop hc c.All.length 0 FU [] (List.replicate c.Regs.toNat 0) 0 (by omega)
    ⟨rfl, List.length_replicate, (fun q hq => by cases hq), fun r hr => by have := Wl_bd c.All r 0; omega⟩ (by have := hc.len; simp only [FU]; omega)
  simp only [vm_Heavy, hr, Option.bind_some, Bool.not_true, cond_false, decide_eq_true g2, decide_eq_true g3, cond_true]
  rw [show vm_Heavy_l c 0 0 (List.replicate c.Regs.toNat 0) = some _ from key]
  rfl

/-! ### registers -/
omit hc in
theorem Wl_ge {l : List Instr} {r : Int} {v : Nat} (h1 : (nth l v).Op ≠ 10) (h2 : (nth l v).To = r) : ∀ m : Nat, v < m → (v : Int) ≤ Wl l r m
  | 0, h => by omega
  | m + 1, h => by
    rw [Wl]
    split
    · omega
    · rename_i q
      by_cases e : v = m
      · subst e; exact (q ⟨h1, h2⟩).elim
      · exact Wl_ge h1 h2 m (by omega)
theorem cntA_le {n : Nat} (hn : n < c.All.length) : cntA c.All n ≤ c.Regs.toNat := by
  have hh := hc.head
  unfold cntA
  generalize hF : (List.range (n + 1)).filter (alvB c.All n) = F
  have hmem : ∀ v, v ∈ F → v ≤ n ∧ (nth c.All v).Op ≠ 10 ∧ (v = n ∨ v < n ∧ ∃ m, n < m ∧ Wl c.All (nth c.All v).To m = (v : Int)) := fun v hv => by
    rw [← hF, List.mem_filter, List.mem_range] at hv
    obtain ⟨h1, h2⟩ := hv
    unfold alvB at h2
    rw [Bool.and_eq_true, decide_eq_true_eq, Bool.or_eq_true, Bool.and_eq_true, decide_eq_true_eq, decide_eq_true_eq, decide_eq_true_eq] at h2
    refine ⟨by omega, h2.1, ?_⟩
    rcases h2.2 with e | ⟨e1, e2⟩
    · exact .inl e
    · obtain ⟨m, m1, m2, m3⟩ := (La_gt (by omega) _).1 e2
      exact .inr ⟨e1, m, m1, (rv_iff.1 m3).2⟩
  have hsorted : F.Pairwise (· < ·) := by rw [← hF]; exact List.Pairwise.filter _ List.pairwise_lt_range
  have hnd : (keysR (F.map fun v => ((nth c.All v).To, (v : Int)))).Nodup := by
    unfold keysR
    rw [List.map_map]
    refine List.pairwise_map.2 (List.Pairwise.imp_of_mem (fun {v w} hv hw hlt => ?_) hsorted)
    show (nth c.All v).To ≠ (nth c.All w).To
    intro e
    obtain ⟨a1, a2, a3⟩ := hmem v hv
    obtain ⟨b1, b2, _⟩ := hmem w hw
    rcases a3 with k | ⟨k, m, m1, m2⟩
    · omega
    · have := Wl_ge b2 e.symm m (by omega)
      omega
  have := keys_le (M := c.Regs.toNat) hnd (fun k hk => by
    unfold keysR at hk
    rw [List.map_map] at hk
    obtain ⟨v, hv, rfl⟩ := List.mem_map.1 hk
    obtain ⟨a1, a2, _⟩ := hmem v hv
    have ht := hc.to (i := v) (by omega)
    rw [if_neg a2] at ht
    show 0 ≤ (nth c.All v).To ∧ (nth c.All v).To < _
    exact ⟨ht.1, by omega⟩)
  rw [List.length_map] at this
  exact this
theorem mxA_regs : ∀ k : Nat, k ≤ c.All.length → mxA c.All k ≤ c.Regs.toNat
  | 0, _ => Nat.zero_le _
  | k + 1, h => by
    rw [mxA]
    exact Nat.max_le.2 ⟨mxA_regs k (by omega), cntA_le hc (by omega)⟩
end
end Go.Ab.M
end

section
/-
  PLAIN LAW: AT EVERY POINT A CODE WITH FEW REGISTERS TELLS THE SAME.
-/
namespace Go.Ab.M
open Go.Proofs Go.Ab
set_option linter.unusedVariables false
set_option linter.unusedSimpArgs false

/-- a point of small numbers -/
def PtR (x : List Rat) : Prop := ∀ j, j < x.length → ∃ q : _root_.Rat, nth x j = ofR q ∧ q.num.natAbs ≤ 128 ∧ q.den ≤ 256
theorem point_rs {I : Nat} (hI : I ≤ 40) {l : List S_N_D} (hl : l.length ≤ 9223372036854775807) (h : ∀ z, z ∈ l → inRange .i8 z.N ∧ inRange .u8 z.D_) : ∃ x, ref15_Point (I : Int) l = some x ∧ x.length = I ∧ PtR x := by
  have key : ∃ x, ref15_Point_l (I : Int) l [] 0 = some x ∧ (x.length = I ∧ PtR x) := by
    unfold ref15_Point_l
    refine loop_inv (round := fun σ : List Rat × Nat => ref15_Point_l_rd (I : Int) l σ.1 σ.2) (fun i σ => σ.2 = i ∧ σ.1.length = i ∧ PtR σ.1) I _ ⟨rfl, rfl, fun j hj => by simp at hj⟩ ?_ ?_ (by simp only [FU]; omega)
    · rintro i ⟨out, j⟩ hi ⟨rfl, ho, hq⟩
      dsimp only at hi ho hq ⊢
      have g1 : ((j : Nat) : Int) < (I : Int) := by omega
      have g3 : out.length + 1 ≤ 2147483648 := by omega
      have go : ∀ q : _root_.Rat, q.num.natAbs ≤ 128 → q.den ≤ 256 → PtR (out ++ [ofR q]) := fun q s1 s2 k hk => by
        rw [List.length_append, List.length_singleton] at hk
        by_cases c : k < out.length
        · rw [nth_app c]; exact hq k c
        · obtain rfl : k = out.length := by omega
          rw [nth_snoc]; exact ⟨q, rfl, s1, s2⟩
      by_cases c : j < l.length
      · obtain ⟨⟨n1, n2⟩, ⟨d1, d2⟩⟩ := h _ (nth_mem c)
        have g2 : ((j : Nat) : Int) < (l.length : Int) := by omega
        have g4 : 0 ≤ (nth l j).D_ := d1
        have g5 : (0 : Int) < 4 := by omega
        have n1' : -128 ≤ (nth l j).N := n1
        have n2' : (nth l j).N ≤ 127 := n2
        obtain ⟨q, e, q1, q2⟩ := small_const (n := (nth l j).N) (d := (nth l j).D_ % 4) n1' n2' (by omega) (by omega)
        refine ⟨(out ++ [ofR q], j + 1), ?_, rfl, by simp [ho], go q q1 q2⟩
        have g6 : decide (0 < 4) = true := rfl
        simp (disch := omega) only [ref15_Point_l_rd, Bool.cond_decide, if_pos g1, if_pos g2, if_pos c, if_pos g4, if_pos g5, g6, e, Option.bind_some, if_pos g3, inK_i64, cond_true]
        try rfl
      · have g2 : ¬ ((j : Nat) : Int) < (l.length : Int) := by omega
        refine ⟨(out ++ [ofR 0], j + 1), ?_, rfl, by simp [ho], go 0 (by decide) (by decide)⟩
        simp (disch := omega) only [ref15_Point_l_rd, Bool.cond_decide, if_pos g1, if_neg g2, ref08_Of_zero, Option.bind_some, if_pos g3, inK_i64, cond_true]
    · rintro ⟨out, j⟩ ⟨h1, ho, hq⟩
      dsimp only at h1 ho hq ⊢
      have g1 : ¬ ((j : Nat) : Int) < (I : Int) := by omega
      exact ⟨out, by simp only [ref15_Point_l_rd, Bool.cond_decide, if_neg g1], ho, hq⟩
  obtain ⟨x, e, h1, h2⟩ := key
  exact ⟨x, by simp only [ref15_Point, e, Option.bind_some], h1, h2⟩

theorem jacs_self {j : Jac} (hl : j.All.length ≤ 1000000) (hw : ∀ x, x ∈ j.All → x.Num.length ≤ 900000000 ∧ x.Den.length ≤ 900000000) : ref16_Jacs j j = some true := by
  simp only [ref16_Jacs, BEq.rfl, cond_true, All_same hl hw, Option.bind_some]

theorem vals_same {c : Code} (hc : RC c) {has names : List (Int × Int)} {out : List Instr} (h : AS c c.All.length has (mxA c.All c.All.length) out names) : (List.range' 0 out.length).map (valI out) = (List.range' 0 c.All.length).map (valI c.All) := by
  rw [h.olen]
  refine List.map_congr_left fun j hj => ?_
  obtain ⟨k, hk, e⟩ := List.mem_range'.1 hj
  exact valI_same hc h (by omega)

theorem RegsSame_true (a b d : Int) (l : List S_Op_To_A_B) (s : List S_N_D) (ha : inRange .u8 a) (hb : inRange .u8 b) (hd : inRange .u8 d) (hl : l.length ≤ maxLen ∧ ∀ z, z ∈ l → S4Ok z) (hs : s.length ≤ maxLen ∧ ∀ z, z ∈ s → inRange .i8 z.N ∧ inRange .u8 z.D_) : law27_RegsSame a b d l s = some true := by
  unfold law27_RegsSame
  rw [awake27, Option.bind_some, Bool.cond_decide]
  by_cases h16 : ((l.length : Nat) : Int) > 16
  · rw [if_pos h16]
  · rw [if_neg h16]
    obtain ⟨c, ec, hc, hx⟩ := MadeC_eq ha hb hd hl.2 (by omega)
    obtain ⟨has, out, names, eas, has⟩ := regs_Assign_t hx hc
    have hh := hc.head
    obtain ⟨I, eI⟩ := Int.eq_ofNat_of_zero_le (show 0 ≤ c.Ins by omega)
    obtain ⟨x, ex, x1, x2⟩ := point_rs (I := I) (by omega) (Nat.le_trans hs.1 (by decide)) hs.2
    have xok : ∀ j, j < x.length → okL 64 (nth x j) := fun j hj => by
      obtain ⟨q, e, h1, h2⟩ := x2 j hj
      rw [e]
      exact (sz1_of h1 h2).ok.mono (by decide)
    have hrd := has.right hc
    have hxd := has.nums hc hx
    generalize hd : Code.mk c.Ins c.Rows c.Cols ((mxA c.All c.All.length : Nat) : Int) out = D at *
    have d1 : D.Ins = c.Ins := by rw [← hd]
    have d2 : D.Rows = c.Rows := by rw [← hd]
    have d3 : D.Cols = c.Cols := by rw [← hd]
    have d4 : D.Regs = ((mxA c.All c.All.length : Nat) : Int) := by rw [← hd]
    have d5 : D.All = out := by rw [← hd]
    have hv := vals_same hc has
    rw [← d5] at hxd hv
    obtain ⟨r1, j1⟩ := vm_Run_eq hc hx (xs := x) (by omega) xok
    obtain ⟨r2, j2⟩ := vm_Run_eq hrd hxd (xs := x) (by omega) xok
    have er : runC D x = runC c x := by unfold runC; rw [hv, d2, d3]
    have et : told D (runC D x) = told c (runC c x) := by
      rw [er]
      cases runC c x with
      | inl e => rfl
      | inr y => unfold told; rw [d2, d3]
    rw [et] at r2
    have w1 := vm_Heavy_eq hc hx
    have w2 := vm_Heavy_eq hrd hxd
    rw [hv] at w2
    have hm := mxA_regs hc c.All.length (Nat.le_refl _)
    have hle : D.Regs ≤ c.Regs := by rw [d4]; omega
    have hj : ref16_Jacs (told c (runC c x)).1 (told c (runC c x)).1 = some true := by
      cases hq : runC c x with
      | inl e => exact jacs_self (by exact Nat.zero_le _) (fun x hx => by cases hx)
      | inr y =>
        obtain ⟨k1, k2⟩ := j1 y hq
        have hb : (c.Rows * c.Cols).toNat ≤ 1000000 := by
          obtain ⟨r, er⟩ := Int.eq_ofNat_of_zero_le (show 0 ≤ c.Rows by omega)
          obtain ⟨s, es⟩ := Int.eq_ofNat_of_zero_le (show 0 ≤ c.Cols by omega)
          have hb : r * s ≤ 40 * 40 := Nat.mul_le_mul (by omega) (by omega)
          rw [er, es, ← Int.natCast_mul, Int.toNat_natCast]
          omega
        refine jacs_self (by show y.1.length ≤ _; omega) (fun z hz => ?_)
        obtain ⟨q, e, hq⟩ := k2 z hz
        rw [e]
        have := okL_wd hq
        exact ⟨Nat.le_trans this.2.2.1 (by decide), Nat.le_trans this.2.2.2 (by decide)⟩
    rw [← eI] at ex
    simp only [ec, Option.bind_some, eas, ex, r1, r2, BEq.rfl, cond_true, Bool.and_true, hj, decide_eq_true hle, w1, w2]
end Go.Ab.M
end

section
/-
  ARGUMENTS AS TYPED DATA (printed by jot.py).
-/
namespace Go.Ab.M
open Go.Proofs Go.Proofs.YtpefcgiiigdcdaaGreat
set_option linter.unusedVariables false
def tyS_Op_To_A_B : Ty Tryz.prog 95 := Ty.as (Ty.struct Tryz.underlying95 (Flds.cons (Ty.int .u8 Tryz.underlying5) rfl 1 (by kernel_rfl) (Flds.cons (Ty.int .u8 Tryz.underlying5) rfl 1 (by kernel_rfl) (Flds.cons (Ty.int .u8 Tryz.underlying5) rfl 1 (by kernel_rfl) (Flds.last (Ty.int .u8 Tryz.underlying5) rfl (by kernel_rfl))))))
  (fun y => S_Op_To_A_B.mk y.1 y.2.1 y.2.2.1 y.2.2.2) S_Op_To_A_B.D (fun y => inRange .u8 y.Op ∧ inRange .u8 y.To ∧ inRange .u8 y.A_ ∧ inRange .u8 y.B_) (fun _ => 0) (fun _ => rfl) (fun _ h => h) (fun _ => Nat.zero_le _)
def tyS_N_D : Ty Tryz.prog 102 := Ty.as (Ty.struct Tryz.underlying102 (Flds.cons (Ty.int .i8 Tryz.underlying97) rfl 1 (by kernel_rfl) (Flds.last (Ty.int .u8 Tryz.underlying5) rfl (by kernel_rfl))))
  (fun y => S_N_D.mk y.1 y.2) S_N_D.D (fun y => inRange .i8 y.N ∧ inRange .u8 y.D_) (fun _ => 0) (fun _ => rfl) (fun _ h => h) (fun _ => Nat.zero_le _)
end Go.Ab.M
end

section
namespace Go.Proofs.YtpefcgiiigdcdaaGreat.regsSame
open Go.ChangeShapes Go.WideShapes Go.ChangeAt Go.RowKit Go.Ab Go.Ab.M
set_option linter.unusedVariables false

theorem own : ownKnob Tryz.prog.godebug = none := by kernel_rfl

theorem core (a : Int) (b : Int) (c : Int) (d : List S_Op_To_A_B) (e : List S_N_D) (ha : inRange .u8 a) (hb : inRange .u8 b) (hc : inRange .u8 c) (hd : (d.length ≤ maxLen ∧ ∀ z, z ∈ d → tyS_Op_To_A_B.ok z)) (he : (e.length ≤ maxLen ∧ ∀ z, z ∈ e → tyS_N_D.ok z)) : ACallsD Tryz.prog 3 0 [NI .u8 a, NI .u8 b, NI .u8 c, SL S_Op_To_A_B.D d, SL S_N_D.D e] [] yes [] := law27_RegsSame_ok a b c d e true (RegsSame_true a b c d e ha hb hc hd he)

set_option maxRecDepth 100000 in
theorem contract (H : Type) (enc : TypeId × Value → H) (W : World) (base : Nat) (args : Array Value) (ds gs : List (DataW H)) (before : List MemPlace)
    (hval : ∀ (j : Nat) t v, Tryz.f3.params[j]? = some t → args[j]? = some v → Value.okWide Tryz.prog W .any base t v)
    (hW : DataW.Whole enc Tryz.prog Tryz.f3.params.toList Rows.regsSameSpec.vars false W args.toList ds gs before) :
    Calls Tryz.prog 3 args W fun e W' => ∃ v, e = .returned v ∧ Rows.regsSameSpec.post enc Tryz.prog Tryz.f3 false true false false W args v W' :=
  law_contract (tb := 4) (ts := [5, 5, 5, 22, 23]) (Tup.one (Ty.int .u8 Tryz.underlying5) (fun n => .v (.int .u8 n)) (fun _ => rfl) (one_int Tryz.underlying5) (Tup.one (Ty.int .u8 Tryz.underlying5) (fun n => .v (.int .u8 n)) (fun _ => rfl) (one_int Tryz.underlying5) (Tup.one (Ty.int .u8 Tryz.underlying5) (fun n => .v (.int .u8 n)) (fun _ => rfl) (one_int Tryz.underlying5) (Tup.one (Ty.slice Tryz.underlying22 tyS_Op_To_A_B (by decide +kernel) (fun _ => show 4 = _ by kernel_rfl)) (fun l => .sl (l.map S_Op_To_A_B.D)) (fun _ => rfl) (one_slice Tryz.underlying22) (Tup.one (Ty.slice Tryz.underlying23 tyS_N_D (by decide +kernel) (fun _ => show 2 = _ by kernel_rfl)) (fun l => .sl (l.map S_N_D.D)) (fun _ => rfl) (one_slice Tryz.underlying23) Tup.nil))))) (by kernel_rfl) (by kernel_rfl) (by kernel_rfl) (by kernel_rfl) Tryz.underlying4 rfl (fun ds h => by
      match ds, h with
      | [d0, d1, d2, d3, d4], _ => rfl) hval hW
    fun y hy _ => core y.1 y.2.1 y.2.2.1 y.2.2.2.1 y.2.2.2.2.1 hy.1 hy.2.1 hy.2.2.1 hy.2.2.2.1 hy.2.2.2.2.1

set_option maxRecDepth 100000 in
theorem lifted (os : Os) (started : os.Started) (H : Type) (enc : TypeId × Value → H) :
    ReturnsInHanded {} Tryz.checked os 3 .any (Rows.regsSameSpec.pre6 enc Tryz.prog Tryz.f3 Rows.regsSameRow.domain false) (Rows.regsSameSpec.post enc Tryz.prog Tryz.f3 false true false false) := by
  refine returnsInHanded_of_change (C := Tryz.checked) own started (by kernel_rfl) Tryz.func3
    (ChangeSpec.witness6 (enc := enc) (C := Tryz.checked) false ⟨#[], #[.int .u8 0, .int .u8 0, .int .u8 0, .slice none 0 0, .slice none 0 0], []⟩ 8 (by kernel_rfl) (by kernel_rfl) (by kernel_rfl) (by kernel_rfl)) ?_
  intro W base args ds gs before hval hW _ _
  exact contract H enc W base args ds gs before hval hW

theorem fact0 : (Rows.regsSameRow.wf (OpenSpec.ofChange Rows.regsSameSpec)) = true := by kernel_rfl
theorem fact1 : (laidOutB Tryz.prog) = true := by kernel_rfl
theorem fact2 : (mapsRowed Tryz.prog) = true := by kernel_rfl
theorem fact3 : (Tryz.f3.params.all (Tryz.prog.readableRec ·)) = true := by kernel_rfl
theorem fact4 : (namedTie Tryz.prog Rows.regsSameRow.named Rows.regsSameSpec.vars) = true := by kernel_rfl
theorem fact5 : ((Rows.regsSameRow.stops == [])) = true := by kernel_rfl
theorem fact6 : ((Tryz.prog.stops == [])) = true := by kernel_rfl
theorem fact7 : ((Rows.regsSameRow.knobs == [])) = true := by kernel_rfl
theorem fact8 : ((Tryz.prog.stopKnobs == [])) = true := by kernel_rfl
theorem fact9 : ((Rows.regsSameRow.inPlace == Tryz.prog.inPlace 3)) = true := by kernel_rfl
theorem fact10 : ((Rows.regsSameRow.unfollowed == Tryz.prog.unfollowed 3)) = true := by kernel_rfl
theorem fact11 : ((Rows.regsSameRow.recurses == Tryz.prog.recurses 3)) = true := by kernel_rfl
theorem fact12 : ((Rows.regsSameRow.named == Tryz.prog.varsNamed 3)) = true := by kernel_rfl
theorem fact13 : ((Rows.regsSameRow.maps == (Tryz.f3.params.toList ++ Rows.regsSameSpec.plain.varTypes Tryz.prog).any (Tryz.prog.mapsRec ·))) = true := by kernel_rfl
theorem fact14 : ((Rows.regsSameRow.ifaces == (Tryz.f3.params.toList ++ Rows.regsSameSpec.plain.varTypes Tryz.prog).any (Tryz.prog.ifacesRec ·))) = true := by kernel_rfl
theorem fact15 : ((Rows.regsSameRow.mapsOut == Tryz.prog.mapsAmong Tryz.f3.resultTypes.toList)) = true := by kernel_rfl
theorem fact16 : ((Rows.regsSameRow.loops == (Tryz.f3.params.toList ++ Rows.regsSameSpec.plain.varTypes Tryz.prog).any (Tryz.prog.loopsFrom ·))) = true := by kernel_rfl
theorem fact17 : ((Rows.regsSameRow.wideKeys == (Tryz.f3.params.toList ++ Rows.regsSameSpec.plain.varTypes Tryz.prog ++ Tryz.f3.resultTypes.toList).any (Tryz.prog.wideKeysFrom ·))) = true := by kernel_rfl
theorem fact18 : (Rows.regsSameSpec.vars.all (Tryz.prog.varReadable ·)) = true := by kernel_rfl
theorem fact19 : (Tryz.f3.resultTypes.all (fun t => Tryz.prog.readableRec t && decide (t < Tryz.prog.types.size))) = true := by kernel_rfl
theorem fact20 : ((Rows.regsSameRow.ifacesOut == Tryz.f3.resultTypes.toList.any (Tryz.prog.ifacesRec ·))) = true := by kernel_rfl
theorem fact21 : ((Rows.regsSameRow.loopsOut == Tryz.f3.resultTypes.toList.any (Tryz.prog.loopsFrom ·))) = true := by kernel_rfl
theorem fact22 : ((Rows.regsSameRow.plainKeys == Tryz.prog.plainKeys)) = true := by kernel_rfl
theorem fact23 : (Rows.regsSameRow.shortTexts.isNone) = true := by kernel_rfl
theorem fact24 : (Tryz.prog.stopsHeard) = true := by kernel_rfl
theorem fact25 : (Tryz.prog.mayEnter) = true := by kernel_rfl
theorem fact26 : ((Rows.regsSameRow.lifted == Tryz.prog.liftsFinal)) = true := by kernel_rfl
theorem fact27 : ((Tryz.prog.make == some Rows.regsSameRow.make)) = true := by kernel_rfl
theorem fact28 : ((Rows.regsSameRow.kinds == (if Rows.regsSameRow.domain.isEmpty then [] else Tryz.f3.params.toList.map fun t => match Tryz.prog.underlying t with | some (.int k) => some k | _ => none))) = true := by kernel_rfl
theorem fact29 : ((Rows.regsSameRow.pinned == Rows.regsSameRow.pinnedBy)) = true := by kernel_rfl
theorem fact30 : ((Rows.regsSameRow.veiled == (Tryz.f3.params.toList ++ Rows.regsSameSpec.plain.varTypes Tryz.prog ++ Tryz.f3.resultTypes.toList).any (Tryz.prog.veiledRec ·))) = true := by kernel_rfl
theorem fact31 : (Rows.regsSameRow.veiledFits Tryz.prog Tryz.f3.params.toList (Tryz.f3.params.toList ++ Rows.regsSameSpec.plain.varTypes Tryz.prog ++ Tryz.f3.resultTypes.toList)) = true := by kernel_rfl
theorem and_t {a b : Bool} (h : a = true) (k : b = true) : (a && b) = true := by rw [h, k]; rfl
set_option maxRecDepth 100000 in
theorem closed : joinedFacts Tryz.prog 3 Tryz.f3 Rows.regsSameSpec Rows.regsSameRow = true := by
  unfold joinedFacts
  exact and_t (and_t (and_t (and_t (and_t (and_t (and_t (and_t (and_t (and_t (and_t (and_t (and_t (and_t (and_t (and_t (and_t (and_t (and_t (and_t (and_t (and_t (and_t (and_t (and_t (and_t (and_t (and_t (and_t (and_t (and_t (fact0) fact1) fact2) fact3) fact4) fact5) fact6) fact7) fact8) fact9) fact10) fact11) fact12) fact13) fact14) fact15) fact16) fact17) fact18) fact19) fact20) fact21) fact22) fact23) fact24) fact25) fact26) fact27) fact28) fact29) fact30) fact31

theorem over : Rows.regsSameRow.holds Tryz.pinned (OpenSpec.ofChange Rows.regsSameSpec) :=
  OpenClaim.holds_of_wide 3 Tryz.f3 rfl rfl rfl rfl rfl rfl rfl ⟨rfl, rfl, rfl, rfl, rfl⟩ rfl rfl rfl rfl rfl (by kernel_rfl) Tryz.func3 closed
    (of_decide_eq_true (by kernel_rfl)) (by unfold Func.isWrapper; first | (rw [if_pos (by decide +kernel)]; kernel_rfl) | (rw [if_neg (by decide +kernel)]; exact ⟨rfl, rfl⟩))
    (fun os started H enc _ => lifted os started H enc)

theorem proved : Rows.RegsSameSaid :=
  over
end Go.Proofs.YtpefcgiiigdcdaaGreat.regsSame
end
