/-
  THE SHAPES' ARGUMENTS AS TYPED DATA.
-/
import Derived.Test.YtgefhpoejihneaaT4
namespace Go.Ab.M
open Go.Proofs Go.Proofs.Ytgefhpoejihneaa
set_option linter.unusedVariables false
def tyPair : Ty Try.prog 62 := Ty.as (Ty.struct Try.underlying62 (Flds.cons (Ty.int .i64 Try.underlying3) rfl 1 (by kernel_rfl) (Flds.last (Ty.int .i64 Try.underlying3) rfl (by kernel_rfl))))
  (fun y => Pair.mk y.1 y.2) Pair.D (fun y => inRange .i64 y.From ∧ inRange .i64 y.To) (fun _ => 3) (fun _ => rfl) (fun _ h => h) (fun _ => Nat.le_refl _)
def tyShape : Ty Try.prog 24 := Ty.as (Ty.struct Try.underlying24 (Flds.cons (Ty.int .i64 Try.underlying3) rfl 1 (by kernel_rfl) (Flds.cons (Ty.int .i64 Try.underlying3) rfl 1 (by kernel_rfl) (Flds.cons (Ty.int .i64 Try.underlying3) rfl 1 (by kernel_rfl)
    (Flds.last (Ty.slice Try.underlying22 tyPair (by decide +kernel) (fun _ => show 2 = _ by kernel_rfl)) rfl (by kernel_rfl))))))
  (fun y => Shape.mk y.1 y.2.1 y.2.2.1 y.2.2.2) Shape.D (fun y => inRange .i64 y.Ins ∧ inRange .i64 y.Mids ∧ inRange .i64 y.Outs ∧ y.All.length ≤ maxLen) (fun y => y.All.length) (fun _ => rfl) (fun _ h => ⟨h.1, h.2.1, h.2.2.1, h.2.2.2.1⟩)
  (fun y => by
    have : ∀ l : List Pair, l.length ≤ sumBy tyPair.bulk l := fun l => by
      induction l with
      | nil => exact Nat.zero_le _
      | cons x l ih => have h : 1 ≤ tyPair.bulk x := (by decide : 1 ≤ 3); simp only [List.length_cons, sumBy]; omega
    exact Nat.le_trans (this y.2.2.2) (show sumBy tyPair.bulk y.2.2.2 ≤ 1 + (1 + (1 + (sumBy tyPair.bulk y.2.2.2 + 1))) + 1 by omega))
end Go.Ab.M
