/-
  THE LAW 'OrderFree' FROM ITS CONTRACT AND ITS PLAIN LAW.
-/
import Derived.Test.YtgefhpoejihneaaJoT
import Derived.Test.YtgefhpoejihneaaPlFree
namespace Go.Proofs.Ytgefhpoejihneaa.orderFree
open Go.ChangeShapes Go.WideShapes Go.ChangeAt Go.RowKit Go.Ab Go.Ab.M
set_option linter.unusedVariables false

theorem own : ownKnob Try.prog.godebug = none := by kernel_rfl

theorem core (a : Int) (b : Int) (ha : inRange .u8 a) (hb : inRange .u8 b) : ACallsD Try.prog 10 0 [NI .u8 a, NI .u8 b] [] yes [] := law23_OrderFree_ok a b true (OrderFree_true a b ha hb)

set_option maxRecDepth 100000 in
theorem contract (H : Type) (enc : TypeId × Value → H) (W : World) (base : Nat) (args : Array Value) (ds gs : List (DataW H)) (before : List MemPlace)
    (hval : ∀ (j : Nat) t v, Try.f10.params[j]? = some t → args[j]? = some v → Value.okWide Try.prog W .any base t v)
    (hW : DataW.Whole enc Try.prog Try.f10.params.toList Rows.orderFreeSpec.vars false W args.toList ds gs before) :
    Calls Try.prog 10 args W fun e W' => ∃ v, e = .returned v ∧ Rows.orderFreeSpec.post enc Try.prog Try.f10 false true false false W args v W' :=
  law_contract (tb := 4) (ts := [5, 5]) (Tup.one (Ty.int .u8 Try.underlying5) (fun n => .v (.int .u8 n)) (fun _ => rfl) (one_int Try.underlying5) (Tup.one (Ty.int .u8 Try.underlying5) (fun n => .v (.int .u8 n)) (fun _ => rfl) (one_int Try.underlying5) Tup.nil)) (by kernel_rfl) (by kernel_rfl) (by kernel_rfl) (by kernel_rfl) Try.underlying4 rfl (fun ds h => by
      match ds, h with
      | [d0, d1], _ => rfl) hval hW
    fun y hy _ => core y.1 y.2.1 hy.1 hy.2.1

set_option maxRecDepth 100000 in
theorem lifted (os : Os) (started : os.Started) (H : Type) (enc : TypeId × Value → H) :
    ReturnsInHanded {} Try.checked os 10 .any (Rows.orderFreeSpec.pre6 enc Try.prog Try.f10 Rows.orderFreeRow.domain false) (Rows.orderFreeSpec.post enc Try.prog Try.f10 false true false false) := by
  refine returnsInHanded_of_change (C := Try.checked) own started (by kernel_rfl) Try.func10
    (ChangeSpec.witness6 (enc := enc) (C := Try.checked) false ⟨#[], #[.int .u8 0, .int .u8 0], []⟩ 8 (by kernel_rfl) (by kernel_rfl) (by kernel_rfl) (by kernel_rfl)) ?_
  intro W base args ds gs before hval hW _ _
  exact contract H enc W base args ds gs before hval hW

theorem over : Rows.orderFreeRow.holds Try.pinned (OpenSpec.ofChange Rows.orderFreeSpec) :=
  OpenClaim.holds_of_wide 10 Try.f10 rfl rfl rfl rfl rfl rfl rfl ⟨rfl, rfl, rfl, rfl, rfl⟩ rfl rfl rfl rfl rfl (by kernel_rfl) Try.func10 (by kernel_rfl)
    (of_decide_eq_true (by kernel_rfl)) (by unfold Func.isWrapper; first | (rw [if_pos (by decide +kernel)]; kernel_rfl) | (rw [if_neg (by decide +kernel)]; exact ⟨rfl, rfl⟩))
    (fun os started H enc _ => lifted os started H enc)

theorem proved : Rows.OrderFreeSaid :=
  over
end Go.Proofs.Ytgefhpoejihneaa.orderFree
