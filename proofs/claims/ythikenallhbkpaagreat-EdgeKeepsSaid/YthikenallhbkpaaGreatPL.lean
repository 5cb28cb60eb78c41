/-
  TEXTS PUT TOGETHER: PlGr3, PlGr4.
-/
import Derived.Test.YthikenallhbkpaaGreatPK
import Derived.Test.YthikenallhbkpaaGreatPG
import Derived.Test.YthikenallhbkpaaGreatTI
section
/-
  PLAIN LAW: GRAPHS, AS THE DOCUMENT TELLS: what is right, edges of a vertex, sums over ways, reaching, pruning.
  Conditions: none.
-/
namespace Go.Ab.M
open Go.Proofs
set_option linter.unusedVariables false
set_option linter.unusedSimpArgs false

instance (p q : Edge) : Decidable (edgeLt p q) := by unfold edgeLt; infer_instance
theorem ref17_Mid_eq {g : Graph} (h : g.shape.sized = true) (v : Int) : ref17_Mid g v = some (g.shape.isMid v) := by
  have hs := sized_iff.1 h
  simp only [Graph.shape] at hs
  simp (disch := omega) only [ref17_Mid, Bool.cond_decide, inK_i64, cond_true, Shape.isMid, Graph.shape, ge_iff_le]
  split
  · rename_i h1; simp [h1]
  · rename_i h1; simp [h1]
theorem outs_pe {g : Graph} {I M O : Nat} (h : RGr g I M O) (v : Nat) : (g.outs (v : Int)).map Edge.pe = g.E.filter fun e => decide (e.f = v) := by
  unfold Graph.outs Graph.E
  rw [List.filter_map]
  congr 1
  refine List.filter_congr fun w hw => ?_
  have := h.e w hw
  show (w.From == (v : Int)) = decide (w.From.toNat = v)
  rw [Bool.eq_iff_iff, beq_iff_eq, decide_eq_true_eq]
  omega

/-! ### reaching -/
theorem gmem_ins {g : Graph} {v : Int} {w : Edge} (h : w ∈ g.ins v) : w ∈ g.Edges ∧ w.To = v := by
  unfold Graph.ins at h
  rw [List.mem_filter, beq_iff_eq] at h
  exact h
theorem gmem_outs {g : Graph} {v : Int} {w : Edge} (h : w ∈ g.outs v) : w ∈ g.Edges ∧ w.From = v := by
  unfold Graph.outs at h
  rw [List.mem_filter, beq_iff_eq] at h
  exact h
end Go.Ab.M
end

section
/-
  PLAIN LAW: SUMS OVER WAYS, AND WHETHER ALL HAVE ONE EDGE, AS THE DOCUMENT TELLS; graphs that are one.
  Conditions: none.
-/
namespace Go.Ab.M
open Go.Proofs
set_option linter.unusedVariables false
set_option linter.unusedSimpArgs false

/-! ### all ways of one edge -/
/-! ### what is one with itself -/
theorem jacs_same {j : Jac} (hl : j.All.length ≤ 1000000) (hw : ∀ x, x ∈ j.All → x.Num.length ≤ 900000000 ∧ x.Den.length ≤ 900000000) : ref16_Jacs j j = some true := by
  simp only [ref16_Jacs, BEq.rfl, cond_true, All_same hl hw, Option.bind_some]
theorem ofR_len {n : Nat} {q : _root_.Rat} (h : szQ n q) (hn : n ≤ 900000000) : (ofR q).Num.length ≤ 900000000 ∧ (ofR q).Den.length ≤ 900000000 := ⟨Nat.le_trans h.num hn, Nat.le_trans h.den hn⟩
theorem paths_same {g : Graph} {I M O n : Nat} (h : RGr g I M O) (hg : g.Ok n) (hn0 : 0 < n) (hK : (n + 1) * g.Edges.length + 1 ≤ 100000) : ref16_Jacs ⟨(O : Int), (I : Int), (List.range (O * I)).map (entry I M g.E)⟩ ⟨(O : Int), (I : Int), (List.range (O * I)).map (entry I M g.E)⟩ = some true := by
  have hOI : O * I ≤ 1600 := Nat.mul_le_mul h.o2 h.i2
  refine jacs_same (by show ((List.range (O * I)).map (entry I M g.E)).length ≤ _; rw [tab_len]; omega) fun x hx => ?_
  have hx : x ∈ (List.range (O * I)).map (entry I M g.E) := hx
  obtain ⟨k, hk, rfl⟩ := List.mem_map.1 hx
  have := bk_sz (h.lab hg hn0) (I + M + k / I) (k % I)
  rw [E_len] at this
  exact ofR_len this (by omega)
end Go.Ab.M
namespace Go.Ab.M
set_option linter.unusedVariables false
end Go.Ab.M
end
