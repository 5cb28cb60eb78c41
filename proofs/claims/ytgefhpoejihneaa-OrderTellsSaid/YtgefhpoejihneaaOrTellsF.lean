/-
  THE LAW 'OrderTells' FROM ITS CONTRACT AND ITS PLAIN LAW.
-/
import Derived.Test.YtgefhpoejihneaaJoT
import Derived.Test.YtgefhpoejihneaaPlOr4
namespace Go.Proofs.Ytgefhpoejihneaa.orderTells
open Go.ChangeShapes Go.WideShapes Go.ChangeAt Go.RowKit Go.Ab Go.Ab.M
set_option linter.unusedVariables false

theorem own : ownKnob Try.prog.godebug = none := by kernel_rfl

theorem core (a : Shape) (b : Int) : ACallsD Try.prog 3 0 [AG Shape.D a, I b] [] yes [] := law23_OrderTells_ok a b true (OrderTells_true a b)

set_option maxRecDepth 100000 in
theorem contract (H : Type) (enc : TypeId × Value → H) (W : World) (base : Nat) (args : Array Value) (ds gs : List (DataW H)) (before : List MemPlace)
    (hval : ∀ (j : Nat) t v, Try.f3.params[j]? = some t → args[j]? = some v → Value.okWide Try.prog W .any base t v)
    (hW : DataW.Whole enc Try.prog Try.f3.params.toList Rows.orderTellsSpec.vars false W args.toList ds gs before) :
    Calls Try.prog 3 args W fun e W' => ∃ v, e = .returned v ∧ Rows.orderTellsSpec.post enc Try.prog Try.f3 false true false false W args v W' :=
  law_contract (tb := 4) (ts := [24, 3]) (Tup.agg tyShape (by kernel_rfl) (Tup.one (Ty.int .i64 Try.underlying3) (fun n => .v (.int .i64 n)) (fun _ => rfl) (one_int Try.underlying3) Tup.nil)) (by kernel_rfl) (by kernel_rfl) (by kernel_rfl) (by kernel_rfl) Try.underlying4 rfl (fun ds h => by
      match ds, h with
      | [d0, d1], _ => rfl) hval hW
    fun y _ _ => core y.1 y.2.1

set_option maxRecDepth 100000 in
theorem lifted (os : Os) (started : os.Started) (H : Type) (enc : TypeId × Value → H) :
    ReturnsInHanded {} Try.checked os 3 .any (Rows.orderTellsSpec.pre6 enc Try.prog Try.f3 Rows.orderTellsRow.domain false) (Rows.orderTellsSpec.post enc Try.prog Try.f3 false true false false) := by
  refine returnsInHanded_of_change (C := Try.checked) own started (by kernel_rfl) Try.func3
    (ChangeSpec.witness6 (enc := enc) (C := Try.checked) false ⟨#[], #[.agg #[.int .i64 0, .int .i64 0, .int .i64 0, .slice none 0 0], .int .i64 0], []⟩ 8 (by kernel_rfl) (by kernel_rfl) (by kernel_rfl) (by kernel_rfl)) ?_
  intro W base args ds gs before hval hW _ _
  exact contract H enc W base args ds gs before hval hW

theorem over : Rows.orderTellsRow.holds Try.pinned (OpenSpec.ofChange Rows.orderTellsSpec) :=
  OpenClaim.holds_of_wide 3 Try.f3 rfl rfl rfl rfl rfl rfl rfl ⟨rfl, rfl, rfl, rfl, rfl⟩ rfl rfl rfl rfl rfl (by kernel_rfl) Try.func3 (by kernel_rfl)
    (of_decide_eq_true (by kernel_rfl)) (by unfold Func.isWrapper; first | (rw [if_pos (by decide +kernel)]; kernel_rfl) | (rw [if_neg (by decide +kernel)]; exact ⟨rfl, rfl⟩))
    (fun os started H enc _ => lifted os started H enc)

theorem proved : Rows.OrderTellsSaid :=
  over
end Go.Proofs.Ytgefhpoejihneaa.orderTells
