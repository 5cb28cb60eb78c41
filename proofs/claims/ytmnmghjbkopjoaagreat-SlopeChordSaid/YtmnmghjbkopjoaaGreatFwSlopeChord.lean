/-
  THE LAW 'SlopeChord' HOLDS AT EVERY INPUT.
  Conditions: none.
-/
import Derived.Test.YtmnmghjbkopjoaaGreatLwSlopeChord
import Derived.Test.YtmnmghjbkopjoaaGreatPI
section
/-
  PLAIN LAW: A PRODUCT'S STEP IS THE SLOPE'S, AND BOTH STEPS' PRODUCT; a quotient times what it was divided by is the other one, in derivatives, too.
-/
section
namespace Go.Ab.M
set_option maxRecDepth 100000
theorem awake16 : law16_awake = some true := by kernel_rfl
end Go.Ab.M
end
namespace Go.Ab.M
set_option linter.unusedVariables false
theorem rat_ok {x : Rat} {n : Nat} (h : True ∧ (x.Num.length ≤ maxLen ∧ ∀ z, z ∈ x.Num → inRange .u32 z) ∧ (x.Den.length ≤ maxLen ∧ ∀ z, z ∈ x.Den → inRange .u32 z)) (k : x.Num.length ≤ n ∧ x.Den.length ≤ n) : okL n x :=
  ⟨fun z hz => ⟨(h.2.1.2 z hz).1, Int.lt_of_le_of_lt (h.2.1.2 z hz).2 (by decide)⟩, fun z hz => ⟨(h.2.2.2 z hz).1, Int.lt_of_le_of_lt (h.2.2.2 z hz).2 (by decide)⟩, k.1, k.2⟩
theorem add_q {n : Nat} {p q : _root_.Rat} (h : szQ n p) (k : szQ n q) (hn0 : 0 < n) (hn : n ≤ 1400) : ref08_Add (ofR p) (ofR q) = some (ofR (p + q)) := by
  have := ref08_Add_eq h.ok k.ok hn0 hn
  rwa [qR_ofR, qR_ofR] at this
theorem sub_q {n : Nat} {p q : _root_.Rat} (h : szQ n p) (k : szQ n q) (hn0 : 0 < n) (hn : n ≤ 1400) : ref08_Sub (ofR p) (ofR q) = some (ofR (p - q)) := by
  have := ref08_Sub_eq h.ok k.ok hn0 hn
  rwa [qR_ofR, qR_ofR] at this
theorem mul_q {n : Nat} {p q : _root_.Rat} (h : szQ n p) (k : szQ n q) (hn0 : 0 < n) (hn : n ≤ 1500) : ref08_Mul (ofR p) (ofR q) = some (ofR (p * q)) := by
  have := ref08_Mul_eq h.ok k.ok hn0 hn
  rwa [qR_ofR, qR_ofR] at this
theorem mul_qx {n : Nat} {p : _root_.Rat} {y : Rat} (h : szQ n p) (k : okL n y) (hn0 : 0 < n) (hn : n ≤ 1500) : ref08_Mul (ofR p) y = some (ofR (p * qR y)) := by
  have := ref08_Mul_eq h.ok k hn0 hn
  rwa [qR_ofR] at this
theorem eq_q {n : Nat} {p : _root_.Rat} (h : szQ n p) (hn : n ≤ 1500) : ref08_Equal (ofR p) (ofR p) = some true := by
  have := ref08_Equal_eq (x := ofR p) (y := ofR p) (by have := h.num; exact Nat.le_trans this (by omega)) (by have := h.den; exact Nat.le_trans this (by omega))
  simpa using this
theorem Chord_at {a b s t : Rat} (ha : okL 2 a) (hb : okL 2 b) (hs : okL 2 s) (ht : okL 2 t) (hf : ref08_Few [a, b, s, t] 2 = some true) : law16_SlopeChord a b s t = some true := by
  have h1 := slope_Local_eq (o := TOp.mk 4 0 0 0 (Rat.mk false [] [])) ha hb (by decide) (by decide)
  have h2 := slope_Local_eq (o := TOp.mk 5 0 0 0 (Rat.mk false [] [])) ha hb (by decide) (by decide)
  have sa := ha.sz (by decide)
  have sb := hb.sz (by decide)
  have ss := hs.sz (by decide)
  have st := ht.sz (by decide)
  have a1 := ref08_Add_eq ha hs (by decide) (by decide)
  have a2 := ref08_Add_eq hb ht (by decide) (by decide)
  have m3 := ref08_Mul_eq ha hb (by decide) (by decide)
  have m4 := ref08_Mul_eq hs ht (by decide) (by decide)
  have d := ref08_Div_eq ha hb (by decide) (by decide)
  have e4 : encL (loc 4 0 (qR a) (qR b)) = (ofR (qR b), ofR (qR a), 0) := rfl
  rw [show (TOp.mk 4 0 0 0 (Rat.mk false [] [])).Code = 4 from rfl, show (TOp.mk 4 0 0 0 (Rat.mk false [] [])).Exp = 0 from rfl, e4] at h1
  have e5 : loc 5 0 (qR a) (qR b) = (if qR b = 0 then .inr 3 else .inl (1 / qR b, -(qR a / (qR b * qR b)))) := by
    unfold loc
    rw [if_neg (by decide), if_neg (by decide), if_neg (by decide), if_neg (by decide), if_pos rfl]
  rw [show (TOp.mk 5 0 0 0 (Rat.mk false [] [])).Code = 5 from rfl, show (TOp.mk 5 0 0 0 (Rat.mk false [] [])).Exp = 0 from rfl, e5] at h2
  have m1 := mul_qx sb hs (by decide) (by decide)
  have m2 := mul_qx sa ht (by decide) (by decide)
  have q15 : ∀ y : _root_.Rat, y * qR b = y * qR b := fun _ => rfl
  have m5 : ∀ {y : _root_.Rat}, szQ 10 y → ref08_Mul (ofR y) b = some (ofR (y * qR b)) := fun hy => mul_qx hy (hb.mono (by decide)) (by decide) (by decide)
  generalize qR a = p at *
  generalize qR b = q at *
  generalize qR s = u at *
  generalize qR t = v at *
  have z3 : szQ 5 (p + u) := (show szQ (2 + 2 + 1) (p + u) from sa.add ss)
  have z4 : szQ 5 (q + v) := (show szQ (2 + 2 + 1) (q + v) from sb.add st)
  have x5 := mul_q z3 z4 (by decide) (by decide)
  have z5 : szQ 10 ((p + u) * (q + v)) := (show szQ (5 + 5) _ from z3.mul z4 (by decide))
  have z6 : szQ 4 (p * q) := (show szQ (2 + 2) _ from sa.mul sb (by decide))
  have x7 := sub_q z5 (z6.mono (by decide)) (by decide) (by decide)
  have z8 : szQ 4 (q * u) := (show szQ (2 + 2) _ from sb.mul ss (by decide))
  have z9 : szQ 4 (p * v) := (show szQ (2 + 2) _ from sa.mul st (by decide))
  have x10 := add_q z8 z9 (by decide) (by decide)
  have z10 : szQ 9 (q * u + p * v) := (show szQ (4 + 4 + 1) _ from z8.add z9)
  have z11 : szQ 4 (u * v) := (show szQ (2 + 2) _ from ss.mul st (by decide))
  have x12 := add_q z10 (z11.mono (by decide)) (by decide) (by decide)
  have z12 : szQ 14 (q * u + p * v + u * v) := (show szQ (9 + 4 + 1) _ from z10.add z11)
  have e7 : (p + u) * (q + v) - p * q = q * u + p * v + u * v := by grind
  rw [e7] at x7
  have eq1 := eq_q z12 (by decide)
  by_cases h : q = 0
  · rw [if_pos h] at d h2
    simp only [law16_SlopeChord, awake16, hf, h1, a1, a2, x5, m3, x7, m1, m2, x10, m4, x12, h2, d, encL, eq1, Option.bind_some, Bool.not_true, cond_false, BEq.rfl, cond_true]
    rfl
  · rw [if_neg h] at d h2
    have y1 : szQ 4 (1 / q) := (show szQ (2 + 2) _ from (sz_one (n := 2) (by decide)).div sb (by decide) (by decide) h)
    have h3 : ¬ (q * q = 0) := fun e => by
      rcases Rat.mul_eq_zero.1 e with e | e <;> exact h e
    have y0 : szQ 4 (q * q) := (show szQ (2 + 2) _ from sb.mul sb (by decide))
    have y2' : szQ 6 (p / (q * q)) := (show szQ (2 + 4) _ from sa.div y0 (by decide) (by decide) h3)
    have y2 : szQ 6 (-(p / (q * q))) := y2'.neg
    have x15 := m5 (y1.mono (by decide))
    have x16 := m5 (y2.mono (by decide))
    have e15 : 1 / q * q = 1 := by grind
    have e16 : -(p / (q * q)) * q = -(p / q) := by grind
    rw [e15] at x15
    rw [e16] at x16
    have y3 : szQ 4 (p / q) := (show szQ (2 + 2) _ from sa.div sb (by decide) (by decide) h)
    have x17 := add_q y3.neg y3 (by decide) (by decide)
    have e17 : -(p / q) + p / q = 0 := by grind
    rw [e17] at x17
    have eq2 := eq_q (sz_one (n := 1) (by decide)) (by decide)
    have eq3 := eq_q (sz_zero (n := 1) (by decide)) (by decide)
    have b0 : (((0 : Int) != 0) = false) := rfl
    simp only [law16_SlopeChord, awake16, hf, h1, a1, a2, x5, m3, x7, m1, m2, x10, m4, x12, h2, d, encL, eq1, eq2, eq3, x15, x16, x17, b0, ref08_Of_one, ref08_Of_zero, Option.bind_some, Bool.not_true, cond_false, BEq.rfl, cond_true]
theorem SlopeChord_true (a b s t : Rat) (ha : True ∧ (a.Num.length ≤ maxLen ∧ ∀ z, z ∈ a.Num → inRange .u32 z) ∧ (a.Den.length ≤ maxLen ∧ ∀ z, z ∈ a.Den → inRange .u32 z))
    (hb : True ∧ (b.Num.length ≤ maxLen ∧ ∀ z, z ∈ b.Num → inRange .u32 z) ∧ (b.Den.length ≤ maxLen ∧ ∀ z, z ∈ b.Den → inRange .u32 z))
    (hs : True ∧ (s.Num.length ≤ maxLen ∧ ∀ z, z ∈ s.Num → inRange .u32 z) ∧ (s.Den.length ≤ maxLen ∧ ∀ z, z ∈ s.Den → inRange .u32 z))
    (ht : True ∧ (t.Num.length ≤ maxLen ∧ ∀ z, z ∈ t.Num → inRange .u32 z) ∧ (t.Den.length ≤ maxLen ∧ ∀ z, z ∈ t.Den → inRange .u32 z)) : law16_SlopeChord a b s t = some true := by
  have hf := Few_eq (l := [a, b, s, t]) (by simp) 2
  have e2 : ((2 : Nat) : Int) = 2 := rfl
  rw [e2] at hf
  by_cases h : ∀ x ∈ [a, b, s, t], x.Num.length ≤ 2 ∧ x.Den.length ≤ 2
  · rw [decide_eq_true h] at hf
    exact Chord_at (rat_ok ha (h a (by simp))) (rat_ok hb (h b (by simp))) (rat_ok hs (h s (by simp))) (rat_ok ht (h t (by simp))) hf
  · rw [decide_eq_false h] at hf
    simp only [law16_SlopeChord, awake16, hf, Option.bind_some, Bool.not_false, cond_true]
end Go.Ab.M
end

section
/-
  ARGUMENTS AS TYPED DATA (printed by jot.py).
-/
namespace Go.Ab.M
open Go.Proofs Go.Proofs.YtmnmghjbkopjoaaGreat
set_option linter.unusedVariables false
def tyRat : Ty Tryz.prog 41 := Ty.as (Ty.struct Tryz.underlying41 (Flds.cons (Ty.bool Tryz.underlying4) rfl 1 (by kernel_rfl) (Flds.cons (Ty.slice Tryz.underlying39 (Ty.int .u32 Tryz.underlying157) (by decide +kernel) (fun _ => show 1 = _ by kernel_rfl)) rfl 1 (by kernel_rfl) (Flds.last (Ty.slice Tryz.underlying39 (Ty.int .u32 Tryz.underlying157) (by decide +kernel) (fun _ => show 1 = _ by kernel_rfl)) rfl (by kernel_rfl)))))
  (fun y => Rat.mk y.1 y.2.1 y.2.2) Rat.D (fun y => True ∧ (y.Num.length ≤ maxLen ∧ ∀ z, z ∈ y.Num → inRange .u32 z) ∧ (y.Den.length ≤ maxLen ∧ ∀ z, z ∈ y.Den → inRange .u32 z)) (fun _ => 0) (fun _ => rfl) (fun _ h => h) (fun _ => Nat.zero_le _)
end Go.Ab.M
end

section
namespace Go.Proofs.YtmnmghjbkopjoaaGreat.slopeChord
open Go.ChangeShapes Go.WideShapes Go.ChangeAt Go.RowKit Go.Ab Go.Ab.M
set_option linter.unusedVariables false

theorem own : ownKnob Tryz.prog.godebug = none := by kernel_rfl

theorem core (a : Go.Ab.M.Rat) (b : Go.Ab.M.Rat) (c : Go.Ab.M.Rat) (d : Go.Ab.M.Rat) (ha : tyRat.ok a) (hb : tyRat.ok b) (hc : tyRat.ok c) (hd : tyRat.ok d) : ACallsD Tryz.prog 10 0 [AG Rat.D a, AG Rat.D b, AG Rat.D c, AG Rat.D d] [] yes [] := law16_SlopeChord_ok a b c d true (SlopeChord_true a b c d ha hb hc hd)

set_option maxRecDepth 100000 in
theorem contract (H : Type) (enc : TypeId × Value → H) (W : World) (base : Nat) (args : Array Value) (ds gs : List (DataW H)) (before : List MemPlace)
    (hval : ∀ (j : Nat) t v, Tryz.f10.params[j]? = some t → args[j]? = some v → Value.okWide Tryz.prog W .any base t v)
    (hW : DataW.Whole enc Tryz.prog Tryz.f10.params.toList Rows.slopeChordSpec.vars false W args.toList ds gs before) :
    Calls Tryz.prog 10 args W fun e W' => ∃ v, e = .returned v ∧ Rows.slopeChordSpec.post enc Tryz.prog Tryz.f10 false true false false W args v W' :=
  law_contract (tb := 4) (ts := [41, 41, 41, 41]) (Tup.agg tyRat (by kernel_rfl) (Tup.agg tyRat (by kernel_rfl) (Tup.agg tyRat (by kernel_rfl) (Tup.agg tyRat (by kernel_rfl) Tup.nil)))) (by kernel_rfl) (by kernel_rfl) (by kernel_rfl) (by kernel_rfl) Tryz.underlying4 rfl (fun ds h => by
      match ds, h with
      | [d0, d1, d2, d3], _ => rfl) hval hW
    fun y hy _ => core y.1 y.2.1 y.2.2.1 y.2.2.2.1 hy.1 hy.2.1 hy.2.2.1 hy.2.2.2.1

set_option maxRecDepth 100000 in
theorem lifted (os : Os) (started : os.Started) (H : Type) (enc : TypeId × Value → H) :
    ReturnsInHanded {} Tryz.checked os 10 .any (Rows.slopeChordSpec.pre6 enc Tryz.prog Tryz.f10 Rows.slopeChordRow.domain false) (Rows.slopeChordSpec.post enc Tryz.prog Tryz.f10 false true false false) := by
  refine returnsInHanded_of_change (C := Tryz.checked) own started (by kernel_rfl) Tryz.func10
    (ChangeSpec.witness6 (enc := enc) (C := Tryz.checked) false ⟨#[], #[.agg #[.bool false, .slice none 0 0, .slice none 0 0], .agg #[.bool false, .slice none 0 0, .slice none 0 0], .agg #[.bool false, .slice none 0 0, .slice none 0 0], .agg #[.bool false, .slice none 0 0, .slice none 0 0]], []⟩ 8 (by kernel_rfl) (by kernel_rfl) (by kernel_rfl) (by kernel_rfl)) ?_
  intro W base args ds gs before hval hW _ _
  exact contract H enc W base args ds gs before hval hW

theorem over : Rows.slopeChordRow.holds Tryz.pinned (OpenSpec.ofChange Rows.slopeChordSpec) :=
  OpenClaim.holds_of_wide 10 Tryz.f10 rfl rfl rfl rfl rfl rfl rfl ⟨rfl, rfl, rfl, rfl, rfl⟩ rfl rfl rfl rfl rfl (by kernel_rfl) Tryz.func10 (by kernel_rfl)
    (of_decide_eq_true (by kernel_rfl)) (by unfold Func.isWrapper; first | (rw [if_pos (by decide +kernel)]; kernel_rfl) | (rw [if_neg (by decide +kernel)]; exact ⟨rfl, rfl⟩))
    (fun os started H enc _ => lifted os started H enc)

theorem proved : Rows.SlopeChordSaid :=
  over
end Go.Proofs.YtmnmghjbkopjoaaGreat.slopeChord
end
