/-
  TEXTS PUT TOGETHER: PlGr3, PlGr4.
-/
import Derived.Test.YthikenallhbkpaaGreatPK
import Derived.Test.YthikenallhbkpaaGreatPG
import Derived.Test.YthikenallhbkpaaGreatTI
section
/-
  PLAIN LAW: GRAPHS, AS THE DOCUMENT TELLS: what is right, edges of a vertex, sums over ways, reaching, pruning.
  Conditions: none.
-/
namespace Go.Ab.M
open Go.Proofs
set_option linter.unusedVariables false
set_option linter.unusedSimpArgs false

instance (p q : Edge) : Decidable (edgeLt p q) := by unfold edgeLt; infer_instance
theorem outs_pe {g : Graph} {I M O : Nat} (h : RGr g I M O) (v : Nat) : (g.outs (v : Int)).map Edge.pe = g.E.filter fun e => decide (e.f = v) := by
  unfold Graph.outs Graph.E
  rw [List.filter_map]
  congr 1
  refine List.filter_congr fun w hw => ?_
  have := h.e w hw
  show (w.From == (v : Int)) = decide (w.From.toNat = v)
  rw [Bool.eq_iff_iff, beq_iff_eq, decide_eq_true_eq]
  omega

/-! ### reaching -/
theorem gmem_ins {g : Graph} {v : Int} {w : Edge} (h : w ∈ g.ins v) : w ∈ g.Edges ∧ w.To = v := by
  unfold Graph.ins at h
  rw [List.mem_filter, beq_iff_eq] at h
  exact h
theorem gmem_outs {g : Graph} {v : Int} {w : Edge} (h : w ∈ g.outs v) : w ∈ g.Edges ∧ w.From = v := by
  unfold Graph.outs at h
  rw [List.mem_filter, beq_iff_eq] at h
  exact h
end Go.Ab.M
end

section
/-
  PLAIN LAW: SUMS OVER WAYS, AND WHETHER ALL HAVE ONE EDGE, AS THE DOCUMENT TELLS; graphs that are one.
  Conditions: none.
-/
namespace Go.Ab.M
open Go.Proofs
set_option linter.unusedVariables false
set_option linter.unusedSimpArgs false

/-! ### all ways of one edge -/
/-! ### what is one with itself -/
end Go.Ab.M
namespace Go.Ab.M
set_option linter.unusedVariables false
theorem Ok.filter {g : Graph} {n : Nat} (hg : g.Ok n) (p : Edge → Bool) : (Graph.mk g.Ins g.Mids g.Outs (g.Edges.filter p) g.Gone).Ok n := by
  refine ⟨fun i hi => ?_, Nat.le_trans (List.length_filter_le _ _) hg.e, hg.g⟩
  have hm := nth_mem hi
  obtain ⟨j, hj, e⟩ := mem_nth (List.mem_filter.1 hm).1
  show okL n (nth (g.Edges.filter p) i).W
  rw [← e]
  exact hg.w j hj
end Go.Ab.M
end
