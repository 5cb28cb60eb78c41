/-
  A CLONE OF AN EMPTY SLICE IS EMPTY.
-/
import Derived.Test.YtgefhpoejihneaaAb26
namespace Go.Ab
open Go.Proofs Go.Proofs.Ytgefhpoejihneaa Go.ChangeShapes Go.WideShapes Go.ChangeAt Go.RowKit
set_option linter.unusedVariables false
variable {P : Program}
theorem cl_eqlIn {t e : TypeId} (h : P.underlying t = some (.slice e)) (w : World) (d : Nat) (p : Option Addr) (c : Nat) : (Op.equalIn (d + 1) t (.slice p 0 c) (.slice none 0 0)).run P w = .ok p.isNone w := by
  cases p <;> simp [Op.equalIn, run_underlying h]
theorem cl_eql {t e : TypeId} (hu : P.underlying t = some (.slice e)) (w : World) (p : Option Addr) (c : Nat) : (binOp .eql t (.slice p 0 c) (.slice none 0 0)).run P w = .ok (.bool p.isNone) w := by
  simp only [binOp]
  simp [Op.equal, Op.maxDepth, cl_eqlIn hu w 9999]
theorem cl_build {t e : TypeId} {i : TypeInfo} (hu : P.underlying t = some (.slice e)) (hi : P.info? e = some i) (w : World) : (Instr.buildSlice t 0 #[]).run P w = .ok (.slice (some ⟨w.heap.size, 0, none⟩) 0 0) (w.alloc (.cells #[] e)) := by
  simp [Instr.buildSlice, run_underlying hu, sizeOf, typeInfo, hi, Instr.fill, newRow]
  congr 1
  congr 1
  apply Array.ext <;> simp
theorem cl_app {t ty e : TypeId} {i : TypeInfo} (ht : P.underlying t = some (.slice e)) (hi : P.info? e = some i) (w : World) (b : Addr) (p : Option Addr) (c : Nat) : (Builtin.append_ #[t, t] ty #[.slice (some b) 0 0, .slice p 0 c]).run P w = .ok (.slice (some b) 0 0) w := by
  have hfc : (Builtin.firstCells i.size 0 (.slice p 0 c)).run P w = .ok #[] w := by
    cases p with
    | none => exact run_firstCells_none w i.size 0 0 c
    | some a => exact run_firstCells_some (P := P) w i.size 0 a 0 c [] (by simp) (fun j u h => by simp at h)
  simp [Builtin.append_, run_underlying ht, sizeOf, typeInfo, hi, Builtin.lenOf, hfc, storeCells]

set_option maxRecDepth 100000 in
theorem clone_walk (p : Option Addr) (c : Nat) (w : World) : Calls Try.prog 97 #[.slice p 0 c] w fun e w' => (∃ p c, e = .returned (.slice p 0 c)) ∧ (w' = w ∨ w' = w.alloc (.cells #[] 3)) := by
  cases p with
  | none =>
    go_enter Try.func97, Try.ntmps97
    go_wp2
    simp only [cl_eql Try.underlying27, Result.andThen_ok, Oper.upon_value, Option.isNone_none]
    go_wp2
    all_goals go_ret
    all_goals exact ⟨⟨_, _, rfl⟩, .inl rfl⟩
  | some a =>
    go_enter Try.func97, Try.ntmps97
    go_wp2
    simp only [cl_eql Try.underlying27, Result.andThen_ok, Oper.upon_value, Option.isNone_some]
    go_wp2
    all_goals go_ret
    all_goals exact ⟨⟨_, _, rfl⟩, .inr rfl⟩
theorem evo_alloc (M : Nat → Nat → Prop) (w : World) (o : Obj) : Evo M w (w.alloc o) :=
  ⟨rfl, rfl, rfl, by simp, fun b q x h _ => by rw [World.cell?_alloc_lt _ _ _ (World.block_lt_of_cell? w _ h)]; exact h, fun b hb _ => heap_alloc_old _ _ hb⟩
theorem clone_empty : ACallsD Try.prog 97 0 [SL (cI .i64) []] [] (SL (cI .i64) []) [] := by
  intro F w ι vs hp
  obtain ⟨v, rfl⟩ : ∃ v, vs = #[v] := by
    have := hp.n
    cases vs with
    | mk l => cases l with
      | nil => simp at this
      | cons v l => cases l with
        | nil => exact ⟨v, rfl⟩
        | cons u l => simp at this
  have hv := hp.arg 0 v _ rfl rfl
  obtain ⟨p, c, rfl⟩ : ∃ p c, v = .slice p 0 c := by
    rcases rd_sl (rv_d hv) with ⟨b, off, sz', cap, f, e1, _⟩ | ⟨a', cap, e1, _⟩
    · exact ⟨_, _, e1⟩
    · exact ⟨_, _, e1⟩
  refine (clone_walk p c w).mono fun e w' he => ?_
  obtain ⟨⟨q, d, rfl⟩, hw⟩ := he
  refine ⟨_, _, [], ι, rfl, ⟨rfl, rfl⟩, ⟨.d (.emp q d), fun k o h => by simp [getH] at h, fun k k' o o' h => by simp [getH] at h, ?_, fun b o h => .inr h, fun _ _ => rfl, fun r o h => by simp [getH] at h⟩⟩
  rcases hw with rfl | rfl
  · exact Evo.refl _ _
  · exact evo_alloc _ _ _
end Go.Ab
