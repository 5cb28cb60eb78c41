/-
  THE LAW 'ShapeOrders' FROM ITS CONTRACT AND ITS PLAIN LAW.
-/
import Derived.Test.YtgefhpoejihneaaJoT
import Derived.Test.YtgefhpoejihneaaPlSh6
namespace Go.Proofs.Ytgefhpoejihneaa.shapeOrders
open Go.ChangeShapes Go.WideShapes Go.ChangeAt Go.RowKit Go.Ab Go.Ab.M
set_option linter.unusedVariables false

theorem own : ownKnob Try.prog.godebug = none := by kernel_rfl

theorem core (s : Shape) (v : List Int) : ACallsD Try.prog 9 0 [AG Shape.D s, SL (cI .i64) v] [] yes [] := law22_ShapeOrders_ok s v true (ShapeOrders_true s v)

set_option maxRecDepth 100000 in
theorem contract (H : Type) (enc : TypeId × Value → H) (W : World) (base : Nat) (args : Array Value) (ds gs : List (DataW H)) (before : List MemPlace)
    (hval : ∀ (j : Nat) t v, Try.f9.params[j]? = some t → args[j]? = some v → Value.okWide Try.prog W .any base t v)
    (hW : DataW.Whole enc Try.prog Try.f9.params.toList Rows.shapeOrdersSpec.vars false W args.toList ds gs before) :
    Calls Try.prog 9 args W fun e W' => ∃ v, e = .returned v ∧ Rows.shapeOrdersSpec.post enc Try.prog Try.f9 false true false false W args v W' :=
  law_contract (tb := 4) (ts := [24, 27]) (Tup.agg tyShape (by kernel_rfl) (Tup.one (Ty.slice Try.underlying27 (Ty.int .i64 Try.underlying3) (by decide +kernel) (fun _ => show 1 = _ by kernel_rfl)) (fun l => .sl (l.map (cI .i64))) (fun _ => rfl) (one_slice Try.underlying27) Tup.nil)) (by kernel_rfl) (by kernel_rfl) (by kernel_rfl) (by kernel_rfl) Try.underlying4 rfl (fun ds h => by
      match ds, h with
      | [d1, d2], _ => rfl) hval hW
    fun y _ _ => core y.1 y.2.1

set_option maxRecDepth 100000 in
theorem lifted (os : Os) (started : os.Started) (H : Type) (enc : TypeId × Value → H) :
    ReturnsInHanded {} Try.checked os 9 .any (Rows.shapeOrdersSpec.pre6 enc Try.prog Try.f9 Rows.shapeOrdersRow.domain false) (Rows.shapeOrdersSpec.post enc Try.prog Try.f9 false true false false) := by
  refine returnsInHanded_of_change (C := Try.checked) own started (by kernel_rfl) Try.func9
    (ChangeSpec.witness6 (enc := enc) (C := Try.checked) false ⟨#[], #[.agg #[.int .i64 0, .int .i64 0, .int .i64 0, .slice none 0 0], .slice none 0 0], []⟩ 8 (by kernel_rfl) (by kernel_rfl) (by kernel_rfl) (by kernel_rfl)) ?_
  intro W base args ds gs before hval hW _ _
  exact contract H enc W base args ds gs before hval hW

theorem over : Rows.shapeOrdersRow.holds Try.pinned (OpenSpec.ofChange Rows.shapeOrdersSpec) :=
  OpenClaim.holds_of_wide 9 Try.f9 rfl rfl rfl rfl rfl rfl rfl ⟨rfl, rfl, rfl, rfl, rfl⟩ rfl rfl rfl rfl rfl (by kernel_rfl) Try.func9 (by kernel_rfl)
    (of_decide_eq_true (by kernel_rfl)) (by unfold Func.isWrapper; first | (rw [if_pos (by decide +kernel)]; kernel_rfl) | (rw [if_neg (by decide +kernel)]; exact ⟨rfl, rfl⟩))
    (fun os started H enc _ => lifted os started H enc)

theorem proved : Rows.ShapeOrdersSaid :=
  over
end Go.Proofs.Ytgefhpoejihneaa.shapeOrders
