/-
  TEXTS PUT TOGETHER: ClV.
-/
import Derived.Test.YtbimmkikjkhglaaGreatLC
import Derived.Tactics
import Derived.Tactics2
section
/-
  The deferred call of value.run: what it does where nothing panicked, and how it is laid.
  Conditions: none.
-/
namespace Go.Proofs.YtbimmkikjkhglaaGreat
open Go.Ab
set_option maxRecDepth 100000
theorem run_idle (x y : Value) : Idle Tryz.prog 224 #[x, y] := fun w => by
  refine (?_ : CallsD Tryz.prog 224 #[x, y] .returning w fun e u' w' => e = .returned (.tuple #[]) ∧ u' = .returning ∧ w' = w).mono fun e u w' h => ⟨⟨_, h.1⟩, h.2⟩
  refine callsD_of_wpS Tryz.func224 rfl fun c₀ cs hu => ?_
  apply wpS_seq
  apply wpS_region
  simp [wpOpsS, go_sem, recoverD, hu, Tryz.ntmps224, Exit.thenS]
  refine wpS_cond (t := false) (by simp [Act.eval, Array.replicate]) ?_
  simp only [Bool.false_eq_true, if_false]
  refine wpS_of_wp (wp_skip ?_)
  cases c₀
  simp_all [bodyPostS, results, Tryz.results224]
theorem run_defers (a : Act) (w : World) (Q : Exit → Act → World → Prop) (ha : a.defers = []) (hs : a.tmps.size = 38) : ∃ (d : Deferred) (v : Value), (Q .normal { tmps := (a.put (some 10) v).tmps, defers := [d] } w → (nav [1, 0] (bodyOf Tryz.f185)).wp Tryz.prog Q a w) ∧
      ∃ fv cap g gargs, d.target = .fn fv cap ∧ (∀ w, (invoke d.target d.args).run Tryz.prog w = .ok (.enter g gargs) w) ∧ Idle Tryz.prog g gargs := by
  refine ⟨{ target := .fn (.func 224) #[a.eval (.tmp 4), a.eval (.tmp 5)], args := #[] }, .func (.func 224) #[] #[a.eval (.tmp 4), a.eval (.tmp 5)], fun h => ?_, _, _, 224, #[a.eval (.tmp 4), a.eval (.tmp 5)], rfl, fun w => by simp [go_sem], run_idle _ _⟩
  refine wp_region ?_
  have h10 : 10 < a.tmps.size := by omega
  simp [List.range, List.range.loop, wpOps, go_sem, ha, Act.put, Act.eval, h10, Array.getD] at h ⊢
  exact .inl (.inl h)
end Go.Proofs.YtbimmkikjkhglaaGreat
end
