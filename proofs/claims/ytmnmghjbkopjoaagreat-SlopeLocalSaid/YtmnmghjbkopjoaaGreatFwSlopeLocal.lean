/-
  THE LAW 'SlopeLocal' HOLDS AT EVERY INPUT.
  Conditions: none.
-/
import Derived.Test.YtmnmghjbkopjoaaGreatLwSlopeLocal
import Derived.Test.YtmnmghjbkopjoaaGreatPI
section
/-
  PLAIN LAW: ANY OP'S PARTIALS ARE AS THE DOCUMENT SAYS.
-/
section
namespace Go.Ab.M
set_option maxRecDepth 100000
theorem awake16 : law16_awake = some true := by kernel_rfl
end Go.Ab.M
end
namespace Go.Ab.M
set_option linter.unusedVariables false
theorem rat_ok {x : Rat} {n : Nat} (h : True ∧ (x.Num.length ≤ maxLen ∧ ∀ z, z ∈ x.Num → inRange .u32 z) ∧ (x.Den.length ≤ maxLen ∧ ∀ z, z ∈ x.Den → inRange .u32 z)) (k : x.Num.length ≤ n ∧ x.Den.length ≤ n) : okL n x :=
  ⟨fun z hz => ⟨(h.2.1.2 z hz).1, Int.lt_of_le_of_lt (h.2.1.2 z hz).2 (by decide)⟩, fun z hz => ⟨(h.2.2.2 z hz).1, Int.lt_of_le_of_lt (h.2.2.2 z hz).2 (by decide)⟩, k.1, k.2⟩
theorem SlopeLocal_true (o : TOp) (a b : Rat) {T : Prop} (ho : T) (ha : True ∧ (a.Num.length ≤ maxLen ∧ ∀ z, z ∈ a.Num → inRange .u32 z) ∧ (a.Den.length ≤ maxLen ∧ ∀ z, z ∈ a.Den → inRange .u32 z))
    (hb : True ∧ (b.Num.length ≤ maxLen ∧ ∀ z, z ∈ b.Num → inRange .u32 z) ∧ (b.Den.length ≤ maxLen ∧ ∀ z, z ∈ b.Den → inRange .u32 z)) : law16_SlopeLocal o a b = some true := by
  have hf := Few_eq (l := [a, b]) (by simp) 2
  have e2 : ((2 : Nat) : Int) = 2 := rfl
  rw [e2] at hf
  by_cases h : ∀ x ∈ [a, b], x.Num.length ≤ 2 ∧ x.Den.length ≤ 2
  · rw [decide_eq_true h] at hf
    have ka := rat_ok ha (h a (by simp))
    have kb := rat_ok hb (h b (by simp))
    have h1 := slope_Local_eq (o := o) ka kb (by decide) (by decide)
    have h2 := ref16_Local_eq (o := o) ka kb (by decide) (by decide)
    have hs := encL_len (loc o.Code o.Exp (qR a) (qR b)) (loc_sz (ka.sz (by decide)) (kb.sz (by decide)) (by decide))
    generalize encL (loc o.Code o.Exp (qR a) (qR b)) = r at h1 h2 hs
    have q1 := ref08_Equal_eq (x := r.1) (y := r.1) (by omega) (by omega)
    have q2 := ref08_Equal_eq (x := r.2.1) (y := r.2.1) (by omega) (by omega)
    simp only [law16_SlopeLocal, awake16, hf, Option.bind_some, Bool.not_true, cond_false, h1, h2, BEq.rfl, cond_true, q1, q2, decide_true]
  · rw [decide_eq_false h] at hf
    simp only [law16_SlopeLocal, awake16, hf, Option.bind_some, Bool.not_false, cond_true]
end Go.Ab.M
end

section
/-
  ARGUMENTS AS TYPED DATA (printed by jot.py).
-/
namespace Go.Ab.M
open Go.Proofs Go.Proofs.YtmnmghjbkopjoaaGreat
set_option linter.unusedVariables false
def tyRat : Ty Tryz.prog 41 := Ty.as (Ty.struct Tryz.underlying41 (Flds.cons (Ty.bool Tryz.underlying4) rfl 1 (by kernel_rfl) (Flds.cons (Ty.slice Tryz.underlying39 (Ty.int .u32 Tryz.underlying157) (by decide +kernel) (fun _ => show 1 = _ by kernel_rfl)) rfl 1 (by kernel_rfl) (Flds.last (Ty.slice Tryz.underlying39 (Ty.int .u32 Tryz.underlying157) (by decide +kernel) (fun _ => show 1 = _ by kernel_rfl)) rfl (by kernel_rfl)))))
  (fun y => Rat.mk y.1 y.2.1 y.2.2) Rat.D (fun y => True ∧ (y.Num.length ≤ maxLen ∧ ∀ z, z ∈ y.Num → inRange .u32 z) ∧ (y.Den.length ≤ maxLen ∧ ∀ z, z ∈ y.Den → inRange .u32 z)) (fun _ => 0) (fun _ => rfl) (fun _ h => h) (fun _ => Nat.zero_le _)
def tyTOp : Ty Tryz.prog 77 := Ty.as (Ty.struct Tryz.underlying77 (Flds.cons (Ty.int .i64 Tryz.underlying3) rfl 1 (by kernel_rfl) (Flds.cons (Ty.int .i64 Tryz.underlying3) rfl 1 (by kernel_rfl) (Flds.cons (Ty.int .i64 Tryz.underlying3) rfl 1 (by kernel_rfl) (Flds.cons (Ty.int .i64 Tryz.underlying3) rfl 1 (by kernel_rfl) (Flds.last tyRat rfl (by kernel_rfl)))))))
  (fun y => TOp.mk y.1 y.2.1 y.2.2.1 y.2.2.2.1 y.2.2.2.2) TOp.D (fun y => inRange .i64 y.Code ∧ inRange .i64 y.A_ ∧ inRange .i64 y.B_ ∧ inRange .i64 y.Exp ∧ tyRat.ok y.Num) (fun _ => 0) (fun _ => rfl) (fun _ h => h) (fun _ => Nat.zero_le _)
end Go.Ab.M
end

section
namespace Go.Proofs.YtmnmghjbkopjoaaGreat.slopeLocal
open Go.ChangeShapes Go.WideShapes Go.ChangeAt Go.RowKit Go.Ab Go.Ab.M
set_option linter.unusedVariables false

theorem own : ownKnob Tryz.prog.godebug = none := by kernel_rfl

theorem core (a : TOp) (b : Go.Ab.M.Rat) (c : Go.Ab.M.Rat) (ha : tyTOp.ok a) (hb : tyRat.ok b) (hc : tyRat.ok c) : ACallsD Tryz.prog 9 0 [AG TOp.D a, AG Rat.D b, AG Rat.D c] [] yes [] := law16_SlopeLocal_ok a b c true (SlopeLocal_true a b c ha hb hc)

set_option maxRecDepth 100000 in
theorem contract (H : Type) (enc : TypeId × Value → H) (W : World) (base : Nat) (args : Array Value) (ds gs : List (DataW H)) (before : List MemPlace)
    (hval : ∀ (j : Nat) t v, Tryz.f9.params[j]? = some t → args[j]? = some v → Value.okWide Tryz.prog W .any base t v)
    (hW : DataW.Whole enc Tryz.prog Tryz.f9.params.toList Rows.slopeLocalSpec.vars false W args.toList ds gs before) :
    Calls Tryz.prog 9 args W fun e W' => ∃ v, e = .returned v ∧ Rows.slopeLocalSpec.post enc Tryz.prog Tryz.f9 false true false false W args v W' :=
  law_contract (tb := 4) (ts := [77, 41, 41]) (Tup.agg tyTOp (by kernel_rfl) (Tup.agg tyRat (by kernel_rfl) (Tup.agg tyRat (by kernel_rfl) Tup.nil))) (by kernel_rfl) (by kernel_rfl) (by kernel_rfl) (by kernel_rfl) Tryz.underlying4 rfl (fun ds h => by
      match ds, h with
      | [d0, d1, d2], _ => rfl) hval hW
    fun y hy _ => core y.1 y.2.1 y.2.2.1 hy.1 hy.2.1 hy.2.2.1

set_option maxRecDepth 100000 in
theorem lifted (os : Os) (started : os.Started) (H : Type) (enc : TypeId × Value → H) :
    ReturnsInHanded {} Tryz.checked os 9 .any (Rows.slopeLocalSpec.pre6 enc Tryz.prog Tryz.f9 Rows.slopeLocalRow.domain false) (Rows.slopeLocalSpec.post enc Tryz.prog Tryz.f9 false true false false) := by
  refine returnsInHanded_of_change (C := Tryz.checked) own started (by kernel_rfl) Tryz.func9
    (ChangeSpec.witness6 (enc := enc) (C := Tryz.checked) false ⟨#[], #[.agg #[.int .i64 0, .int .i64 0, .int .i64 0, .int .i64 0, .bool false, .slice none 0 0, .slice none 0 0], .agg #[.bool false, .slice none 0 0, .slice none 0 0], .agg #[.bool false, .slice none 0 0, .slice none 0 0]], []⟩ 8 (by kernel_rfl) (by kernel_rfl) (by kernel_rfl) (by kernel_rfl)) ?_
  intro W base args ds gs before hval hW _ _
  exact contract H enc W base args ds gs before hval hW

theorem over : Rows.slopeLocalRow.holds Tryz.pinned (OpenSpec.ofChange Rows.slopeLocalSpec) :=
  OpenClaim.holds_of_wide 9 Tryz.f9 rfl rfl rfl rfl rfl rfl rfl ⟨rfl, rfl, rfl, rfl, rfl⟩ rfl rfl rfl rfl rfl (by kernel_rfl) Tryz.func9 (by kernel_rfl)
    (of_decide_eq_true (by kernel_rfl)) (by unfold Func.isWrapper; first | (rw [if_pos (by decide +kernel)]; kernel_rfl) | (rw [if_neg (by decide +kernel)]; exact ⟨rfl, rfl⟩))
    (fun os started H enc _ => lifted os started H enc)

theorem proved : Rows.SlopeLocalSaid :=
  over
end Go.Proofs.YtmnmghjbkopjoaaGreat.slopeLocal
end
