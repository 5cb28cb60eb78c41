/-
  TEXTS PUT TOGETHER: PlGr3, PlGr4.
-/
import Derived.Test.YtcelliafjmmldaaGreatPK
import Derived.Test.YtcelliafjmmldaaGreatPG
import Derived.Test.YtcelliafjmmldaaGreatTI
section
/-
  PLAIN LAW: GRAPHS, AS THE DOCUMENT TELLS: what is right, edges of a vertex, sums over ways, reaching, pruning.
  Conditions: none.
-/
namespace Go.Ab.M
open Go.Proofs
set_option linter.unusedVariables false
set_option linter.unusedSimpArgs false

instance (p q : Edge) : Decidable (edgeLt p q) := by unfold edgeLt; infer_instance
/-! ### reaching -/
theorem gmem_ins {g : Graph} {v : Int} {w : Edge} (h : w ∈ g.ins v) : w ∈ g.Edges ∧ w.To = v := by
  unfold Graph.ins at h
  rw [List.mem_filter, beq_iff_eq] at h
  exact h
theorem gmem_outs {g : Graph} {v : Int} {w : Edge} (h : w ∈ g.outs v) : w ∈ g.Edges ∧ w.From = v := by
  unfold Graph.outs at h
  rw [List.mem_filter, beq_iff_eq] at h
  exact h
theorem ins_len (g : Graph) (v : Int) : (g.ins v).length ≤ g.Edges.length := List.length_filter_le _ _
theorem outs_len (g : Graph) (v : Int) : (g.outs v).length ≤ g.Edges.length := List.length_filter_le _ _
end Go.Ab.M
end

section
/-
  PLAIN LAW: SUMS OVER WAYS, AND WHETHER ALL HAVE ONE EDGE, AS THE DOCUMENT TELLS; graphs that are one.
  Conditions: none.
-/
namespace Go.Ab.M
open Go.Proofs
set_option linter.unusedVariables false
set_option linter.unusedSimpArgs false

/-! ### all ways of one edge -/
/-! ### what is one with itself -/
theorem edges_same {l : List Edge} (hl : l.length ≤ 1000000) (hw : ∀ w, w ∈ l → w.W.Num.length ≤ 900000000 ∧ w.W.Den.length ≤ 900000000) : ref16_All l l = some true := by
  have e : ref16_All_l l l 0 = some (.inr ()) := by
    unfold ref16_All_l
    refine loop_run (round := fun σ => ref16_All_l_rd l l σ) (fun i => i) l.length (fun i hi => ?_) ?_ (by simp only [FU]; omega)
    · have q := ref08_Equal_eq (x := (nth l i).W) (y := (nth l i).W) (hw _ (nth_mem hi)).1 (hw _ (nth_mem hi)).2
      simp (disch := omega) only [ref16_All_l_rd, q, decide_true, Bool.not_true, cond_false, bne_self_eq_false, Option.bind_some, Bool.cond_decide, if_t, inK_i64, cond_true]
    · simp only [ref16_All_l_rd, Int.lt_irrefl, decide_false, cond_false]
  simp only [ref16_All, bne_self_eq_false, cond_false, e, Option.bind_some, caseS_inr]
end Go.Ab.M
namespace Go.Ab.M
set_option linter.unusedVariables false
end Go.Ab.M
end
