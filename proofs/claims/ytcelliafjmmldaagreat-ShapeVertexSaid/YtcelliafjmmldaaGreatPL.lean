/-
  TEXTS PUT TOGETHER: PlGr3, PlGr4.
-/
import Derived.Test.YtcelliafjmmldaaGreatPK
import Derived.Test.YtcelliafjmmldaaGreatPG
import Derived.Test.YtcelliafjmmldaaGreatTI
section
/-
  PLAIN LAW: GRAPHS, AS THE DOCUMENT TELLS: what is right, edges of a vertex, sums over ways, reaching, pruning.
  Conditions: none.
-/
namespace Go.Ab.M
open Go.Proofs
set_option linter.unusedVariables false
set_option linter.unusedSimpArgs false

instance (p q : Edge) : Decidable (edgeLt p q) := by unfold edgeLt; infer_instance
theorem outs_pe {g : Graph} {I M O : Nat} (h : RGr g I M O) (v : Nat) : (g.outs (v : Int)).map Edge.pe = g.E.filter fun e => decide (e.f = v) := by
  unfold Graph.outs Graph.E
  rw [List.filter_map]
  congr 1
  refine List.filter_congr fun w hw => ?_
  have := h.e w hw
  show (w.From == (v : Int)) = decide (w.From.toNat = v)
  rw [Bool.eq_iff_iff, beq_iff_eq, decide_eq_true_eq]
  omega

/-! ### reaching -/
theorem gmem_ins {g : Graph} {v : Int} {w : Edge} (h : w ∈ g.ins v) : w ∈ g.Edges ∧ w.To = v := by
  unfold Graph.ins at h
  rw [List.mem_filter, beq_iff_eq] at h
  exact h
theorem gmem_outs {g : Graph} {v : Int} {w : Edge} (h : w ∈ g.outs v) : w ∈ g.Edges ∧ w.From = v := by
  unfold Graph.outs at h
  rw [List.mem_filter, beq_iff_eq] at h
  exact h
theorem ins_len (g : Graph) (v : Int) : (g.ins v).length ≤ g.Edges.length := List.length_filter_le _ _
theorem outs_len (g : Graph) (v : Int) : (g.outs v).length ≤ g.Edges.length := List.length_filter_le _ _
end Go.Ab.M
end

section
/-
  PLAIN LAW: SUMS OVER WAYS, AND WHETHER ALL HAVE ONE EDGE, AS THE DOCUMENT TELLS; graphs that are one.
  Conditions: none.
-/
namespace Go.Ab.M
open Go.Proofs
set_option linter.unusedVariables false
set_option linter.unusedSimpArgs false

theorem SZ.word {n : Nat} {l : List PE} (hl : Lab n l) {k : Nat} (hk : k ≤ 1000) {q : _root_.Rat} (h : SZ (DD l) (k * MM l) q) : szQ ((n + 1) * l.length + 1) q := by
  have hM := MM_lt hl
  have hD := DD_le l
  have h3 : (4294967296 : Nat) ^ ((n + 1) * l.length + 1) = 4294967296 ^ ((n + 1) * l.length) * 4294967296 := Nat.pow_succ ..
  have h4 : 0 < (4294967296 : Nat) ^ ((n + 1) * l.length) := Nat.pow_pos (by decide)
  have h5 : k * MM l ≤ 1000 * 4294967296 ^ ((n + 1) * l.length) := Nat.mul_le_mul hk hM
  refine h.sz ?_ ?_ (by omega)
  · rw [h3]
    generalize (4294967296 : Nat) ^ ((n + 1) * l.length) = W at *
    omega
  · rw [h3]
    generalize (4294967296 : Nat) ^ ((n + 1) * l.length) = W at *
    omega
/-! ### all ways of one edge -/
/-! ### what is one with itself -/
theorem edges_same {l : List Edge} (hl : l.length ≤ 1000000) (hw : ∀ w, w ∈ l → w.W.Num.length ≤ 900000000 ∧ w.W.Den.length ≤ 900000000) : ref16_All l l = some true := by
  have e : ref16_All_l l l 0 = some (.inr ()) := by
    unfold ref16_All_l
    refine loop_run (round := fun σ => ref16_All_l_rd l l σ) (fun i => i) l.length (fun i hi => ?_) ?_ (by simp only [FU]; omega)
    · have q := ref08_Equal_eq (x := (nth l i).W) (y := (nth l i).W) (hw _ (nth_mem hi)).1 (hw _ (nth_mem hi)).2
      simp (disch := omega) only [ref16_All_l_rd, q, decide_true, Bool.not_true, cond_false, bne_self_eq_false, Option.bind_some, Bool.cond_decide, if_t, inK_i64, cond_true]
    · simp only [ref16_All_l_rd, Int.lt_irrefl, decide_false, cond_false]
  simp only [ref16_All, bne_self_eq_false, cond_false, e, Option.bind_some, caseS_inr]
theorem graph_same {g : Graph} (hl : g.Edges.length ≤ 1000000) (hg : g.Gone.length ≤ 1000000) (hw : ∀ w, w ∈ g.Edges → w.W.Num.length ≤ 900000000 ∧ w.W.Den.length ≤ 900000000) : ref17_Same g g = some true := by
  have e : ref17_Same_l g g 0 = some (.inr ()) := by
    unfold ref17_Same_l
    refine loop_run (round := fun σ => ref17_Same_l_rd g g σ) (fun i => i) g.Gone.length (fun i hi => ?_) ?_ (by simp only [FU]; omega)
    · simp (disch := omega) only [ref17_Same_l_rd, bne_self_eq_false, cond_false, Bool.cond_decide, if_t, inK_i64, cond_true]
    · simp only [ref17_Same_l_rd, Int.lt_irrefl, decide_false, cond_false]
  simp only [ref17_Same, bne_self_eq_false, cond_false, e, Option.bind_some, caseS_inr, edges_same hl hw]
theorem Ok.len {g : Graph} {n : Nat} (hg : g.Ok n) (hn : n ≤ 900000000) : ∀ w, w ∈ g.Edges → w.W.Num.length ≤ 900000000 ∧ w.W.Den.length ≤ 900000000 := fun w hw => by
  obtain ⟨i, hi, rfl⟩ := mem_nth hw
  obtain ⟨-, -, a, b⟩ := hg.w i hi
  exact ⟨by omega, by omega⟩
end Go.Ab.M
namespace Go.Ab.M
set_option linter.unusedVariables false
theorem Ok.filter {g : Graph} {n : Nat} (hg : g.Ok n) (p : Edge → Bool) : (Graph.mk g.Ins g.Mids g.Outs (g.Edges.filter p) g.Gone).Ok n := by
  refine ⟨fun i hi => ?_, Nat.le_trans (List.length_filter_le _ _) hg.e, hg.g⟩
  have hm := nth_mem hi
  obtain ⟨j, hj, e⟩ := mem_nth (List.mem_filter.1 hm).1
  show okL n (nth (g.Edges.filter p) i).W
  rw [← e]
  exact hg.w j hj
end Go.Ab.M
end
