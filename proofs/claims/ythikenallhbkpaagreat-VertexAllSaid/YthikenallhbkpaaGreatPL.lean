/-
  TEXTS PUT TOGETHER: PlGr3, PlGr4.
-/
import Derived.Test.YthikenallhbkpaaGreatPK
import Derived.Test.YthikenallhbkpaaGreatPG
import Derived.Test.YthikenallhbkpaaGreatTI
section
/-
  PLAIN LAW: GRAPHS, AS THE DOCUMENT TELLS: what is right, edges of a vertex, sums over ways, reaching, pruning.
  Conditions: none.
-/
namespace Go.Ab.M
open Go.Proofs
set_option linter.unusedVariables false
set_option linter.unusedSimpArgs false

instance (p q : Edge) : Decidable (edgeLt p q) := by unfold edgeLt; infer_instance
theorem ins_pe {g : Graph} {I M O : Nat} (h : RGr g I M O) (v : Nat) : (g.ins (v : Int)).map Edge.pe = g.E.filter fun e => decide (e.t = v) := by
  unfold Graph.ins Graph.E
  rw [List.filter_map]
  congr 1
  refine List.filter_congr fun w hw => ?_
  have := h.e w hw
  show (w.To == (v : Int)) = decide (w.To.toNat = v)
  rw [Bool.eq_iff_iff, beq_iff_eq, decide_eq_true_eq]
  omega
theorem outs_pe {g : Graph} {I M O : Nat} (h : RGr g I M O) (v : Nat) : (g.outs (v : Int)).map Edge.pe = g.E.filter fun e => decide (e.f = v) := by
  unfold Graph.outs Graph.E
  rw [List.filter_map]
  congr 1
  refine List.filter_congr fun w hw => ?_
  have := h.e w hw
  show (w.From == (v : Int)) = decide (w.From.toNat = v)
  rw [Bool.eq_iff_iff, beq_iff_eq, decide_eq_true_eq]
  omega

/-! ### reaching -/
theorem any_pe (l : List Edge) (q : PE → Bool) : (l.any fun w => q w.pe) = (l.map Edge.pe).any q := by rw [List.any_map]; rfl
theorem fr_last {g : Graph} {I M O : Nat} (h : RGr g I M O) (v : Nat) : fr I g.E v = (decide (v < I) || (g.ins (v : Int)).any fun w => fr I g.E w.From.toNat) := by
  have := foldF_last (l := g.E) (sIn I) v g.E [] (List.append_nil _) h.fwd
  unfold fr
  rw [this, ← ins_pe h, ← any_pe]
  rfl
theorem to_first {g : Graph} {I M O : Nat} (h : RGr g I M O) (v : Nat) : to_ (I + M) g.E v = (decide (I + M ≤ v) || (g.outs (v : Int)).any fun w => to_ (I + M) g.E w.To.toNat) := by
  have := bkB_first (l := g.E) (sOut (I + M)) v (r := g.E) (p := []) rfl h.fwd
  unfold to_
  rw [this, ← outs_pe h, ← any_pe]
  rfl
theorem gmem_ins {g : Graph} {v : Int} {w : Edge} (h : w ∈ g.ins v) : w ∈ g.Edges ∧ w.To = v := by
  unfold Graph.ins at h
  rw [List.mem_filter, beq_iff_eq] at h
  exact h
theorem gmem_outs {g : Graph} {v : Int} {w : Edge} (h : w ∈ g.outs v) : w ∈ g.Edges ∧ w.From = v := by
  unfold Graph.outs at h
  rw [List.mem_filter, beq_iff_eq] at h
  exact h
end Go.Ab.M
end

section
/-
  PLAIN LAW: SUMS OVER WAYS, AND WHETHER ALL HAVE ONE EDGE, AS THE DOCUMENT TELLS; graphs that are one.
  Conditions: none.
-/
namespace Go.Ab.M
open Go.Proofs
set_option linter.unusedVariables false
set_option linter.unusedSimpArgs false

theorem SZ.word {n : Nat} {l : List PE} (hl : Lab n l) {k : Nat} (hk : k ≤ 1000) {q : _root_.Rat} (h : SZ (DD l) (k * MM l) q) : szQ ((n + 1) * l.length + 1) q := by
  have hM := MM_lt hl
  have hD := DD_le l
  have h3 : (4294967296 : Nat) ^ ((n + 1) * l.length + 1) = 4294967296 ^ ((n + 1) * l.length) * 4294967296 := Nat.pow_succ ..
  have h4 : 0 < (4294967296 : Nat) ^ ((n + 1) * l.length) := Nat.pow_pos (by decide)
  have h5 : k * MM l ≤ 1000 * 4294967296 ^ ((n + 1) * l.length) := Nat.mul_le_mul hk hM
  refine h.sz ?_ ?_ (by omega)
  · rw [h3]
    generalize (4294967296 : Nat) ^ ((n + 1) * l.length) = W at *
    omega
  · rw [h3]
    generalize (4294967296 : Nat) ^ ((n + 1) * l.length) = W at *
    omega
theorem dq_sum (l : List PE) (v to : Nat) : dq l v to = sumQ ((l.filter fun e => decide (e.f = v)).map fun e => e.w * (if e.t = to then 1 else 0)) := by
  unfold dq
  induction l with
  | nil => rfl
  | cons x l ih =>
    rw [List.filter_cons, List.filter_cons]
    unfold onE
    unfold onE at ih
    by_cases a : x.f = v
    · rw [decide_eq_true a, Bool.true_and, if_pos rfl, List.map_cons, sumQ_cons, ← ih]
      by_cases b : x.t = to
      · rw [decide_eq_true b, if_pos rfl, List.map_cons, sumQ_cons, if_pos b]
        grind
      · rw [decide_eq_false b, if_neg (by decide), if_neg b]
        grind
    · rw [decide_eq_false a, Bool.false_and, if_neg (by decide), if_neg (by decide), ← ih]
/-! ### all ways of one edge -/
theorem mids_on {g : Graph} {I M O : Nat} (h : RGr g I M O) : ∀ (k v : Nat), I + M ≤ k + v → I ≤ v → v < I + M → fr I g.E v = true → to_ (I + M) g.E v = true → ∃ w, w ∈ g.Edges ∧ I ≤ w.From.toNat ∧ fr I g.E w.From.toNat = true ∧ I + M ≤ w.To.toNat
  | 0, v, h1, h2, h3, _, _ => by omega
  | k + 1, v, h1, h2, h3, h4, h5 => by
    rw [to_first h, decide_eq_false (show ¬ I + M ≤ v by omega), Bool.false_or, List.any_eq_true] at h5
    obtain ⟨w, hw, ht⟩ := h5
    obtain ⟨hm, hv⟩ := gmem_outs hw
    have he := h.e w hm
    have hv' : w.From.toNat = v := by omega
    by_cases q : I + M ≤ w.To.toNat
    · exact ⟨w, hm, by omega, by rw [hv']; exact h4, q⟩
    · have hfr : fr I g.E w.To.toNat = true := by
        rw [fr_last h, Bool.or_eq_true]
        right
        rw [List.any_eq_true]
        refine ⟨w, ?_, by rw [hv']; exact h4⟩
        unfold Graph.ins
        rw [List.mem_filter, beq_iff_eq]
        exact ⟨hm, by omega⟩
      exact mids_on h k w.To.toNat (by omega) (by omega) (by omega) hfr ht
theorem fr_at {g : Graph} {I M O : Nat} (h : RGr g I M O) {i : Nat} (hi : i < g.Edges.length) : fr I (g.E.take i) (nth g.Edges i).From.toNat = fr I g.E (nth g.Edges i).From.toNat := by
  have e : g.E = g.E.take i ++ (nth g.Edges i).pe :: g.E.drop (i + 1) := by rw [← E_drop hi, List.take_append_drop]
  have := foldF_ahead (p := g.E.take i) (r := g.E.drop (i + 1)) (e := (nth g.Edges i).pe) (by rw [← e]; exact h.fwd) (sIn I)
  rw [← e] at this
  exact this.symm
theorem comp_iff {g : Graph} {I M O : Nat} (h : RGr g I M O) : g.comp I M = (List.range M).all fun i => !(fr I g.E (I + i) && to_ (I + M) g.E (I + i)) := by
  rw [Bool.eq_iff_iff]
  unfold Graph.comp
  rw [List.all_eq_true, List.all_eq_true]
  constructor
  · intro hc i hi
    rw [Bool.not_eq_true', Bool.eq_false_iff]
    intro hx
    rw [Bool.and_eq_true] at hx
    obtain ⟨w, w1, w2, w3, w4⟩ := mids_on h M (I + i) (by omega) (by omega) (by have := List.mem_range.1 hi; omega) hx.1 hx.2
    obtain ⟨j, hj, rfl⟩ := mem_nth w1
    have := hc j (by simpa using hj)
    have he := h.e _ (nth_mem hj)
    unfold compFits met at this
    rw [fr_at h hj, w3, decide_eq_true w2, decide_eq_true (show (I : Int) ≤ (nth g.Edges j).From by omega), decide_eq_true (show (I : Int) + M ≤ (nth g.Edges j).To by omega)] at this
    cases this
  · intro hc j hj
    have hj := List.mem_range.1 hj
    have he := h.e _ (nth_mem hj)
    unfold compFits
    rw [Bool.not_eq_true', Bool.eq_false_iff]
    intro hx
    rw [Bool.and_eq_true, Bool.and_eq_true, decide_eq_true_eq, decide_eq_true_eq] at hx
    obtain ⟨⟨x1, x2⟩, x3⟩ := hx
    unfold met at x2
    rw [fr_at h hj, Bool.and_eq_true] at x2
    have := hc ((nth g.Edges j).From.toNat - I) (by rw [List.mem_range]; omega)
    rw [show I + ((nth g.Edges j).From.toNat - I) = (nth g.Edges j).From.toNat by omega, x2.2, Bool.true_and, Bool.not_eq_true'] at this
    rw [to_first h, Bool.or_eq_false_iff, List.any_eq_false] at this
    refine this.2 (nth g.Edges j) ?_ ?_
    · unfold Graph.outs
      rw [List.mem_filter, beq_iff_eq]
      exact ⟨nth_mem hj, by omega⟩
    · rw [to_first h, decide_eq_true (show I + M ≤ (nth g.Edges j).To.toNat by omega)]
      rfl
/-! ### what is one with itself -/
theorem edges_same {l : List Edge} (hl : l.length ≤ 1000000) (hw : ∀ w, w ∈ l → w.W.Num.length ≤ 900000000 ∧ w.W.Den.length ≤ 900000000) : ref16_All l l = some true := by
  have e : ref16_All_l l l 0 = some (.inr ()) := by
    unfold ref16_All_l
    refine loop_run (round := fun σ => ref16_All_l_rd l l σ) (fun i => i) l.length (fun i hi => ?_) ?_ (by simp only [FU]; omega)
    · have q := ref08_Equal_eq (x := (nth l i).W) (y := (nth l i).W) (hw _ (nth_mem hi)).1 (hw _ (nth_mem hi)).2
      simp (disch := omega) only [ref16_All_l_rd, q, decide_true, Bool.not_true, cond_false, bne_self_eq_false, Option.bind_some, Bool.cond_decide, if_t, inK_i64, cond_true]
    · simp only [ref16_All_l_rd, Int.lt_irrefl, decide_false, cond_false]
  simp only [ref16_All, bne_self_eq_false, cond_false, e, Option.bind_some, caseS_inr]
theorem jacs_same {j : Jac} (hl : j.All.length ≤ 1000000) (hw : ∀ x, x ∈ j.All → x.Num.length ≤ 900000000 ∧ x.Den.length ≤ 900000000) : ref16_Jacs j j = some true := by
  simp only [ref16_Jacs, BEq.rfl, cond_true, All_same hl hw, Option.bind_some]
theorem graph_same {g : Graph} (hl : g.Edges.length ≤ 1000000) (hg : g.Gone.length ≤ 1000000) (hw : ∀ w, w ∈ g.Edges → w.W.Num.length ≤ 900000000 ∧ w.W.Den.length ≤ 900000000) : ref17_Same g g = some true := by
  have e : ref17_Same_l g g 0 = some (.inr ()) := by
    unfold ref17_Same_l
    refine loop_run (round := fun σ => ref17_Same_l_rd g g σ) (fun i => i) g.Gone.length (fun i hi => ?_) ?_ (by simp only [FU]; omega)
    · simp (disch := omega) only [ref17_Same_l_rd, bne_self_eq_false, cond_false, Bool.cond_decide, if_t, inK_i64, cond_true]
    · simp only [ref17_Same_l_rd, Int.lt_irrefl, decide_false, cond_false]
  simp only [ref17_Same, bne_self_eq_false, cond_false, e, Option.bind_some, caseS_inr, edges_same hl hw]
theorem Ok.len {g : Graph} {n : Nat} (hg : g.Ok n) (hn : n ≤ 900000000) : ∀ w, w ∈ g.Edges → w.W.Num.length ≤ 900000000 ∧ w.W.Den.length ≤ 900000000 := fun w hw => by
  obtain ⟨i, hi, rfl⟩ := mem_nth hw
  obtain ⟨-, -, a, b⟩ := hg.w i hi
  exact ⟨by omega, by omega⟩
theorem ofR_len {n : Nat} {q : _root_.Rat} (h : szQ n q) (hn : n ≤ 900000000) : (ofR q).Num.length ≤ 900000000 ∧ (ofR q).Den.length ≤ 900000000 := ⟨Nat.le_trans h.num hn, Nat.le_trans h.den hn⟩
theorem paths_same {g : Graph} {I M O n : Nat} (h : RGr g I M O) (hg : g.Ok n) (hn0 : 0 < n) (hK : (n + 1) * g.Edges.length + 1 ≤ 100000) : ref16_Jacs ⟨(O : Int), (I : Int), (List.range (O * I)).map (entry I M g.E)⟩ ⟨(O : Int), (I : Int), (List.range (O * I)).map (entry I M g.E)⟩ = some true := by
  have hOI : O * I ≤ 1600 := Nat.mul_le_mul h.o2 h.i2
  refine jacs_same (by show ((List.range (O * I)).map (entry I M g.E)).length ≤ _; rw [tab_len]; omega) fun x hx => ?_
  have hx : x ∈ (List.range (O * I)).map (entry I M g.E) := hx
  obtain ⟨k, hk, rfl⟩ := List.mem_map.1 hx
  have := bk_sz (h.lab hg hn0) (I + M + k / I) (k % I)
  rw [E_len] at this
  exact ofR_len this (by omega)
end Go.Ab.M
namespace Go.Ab.M
set_option linter.unusedVariables false
theorem Ok.filter {g : Graph} {n : Nat} (hg : g.Ok n) (p : Edge → Bool) : (Graph.mk g.Ins g.Mids g.Outs (g.Edges.filter p) g.Gone).Ok n := by
  refine ⟨fun i hi => ?_, Nat.le_trans (List.length_filter_le _ _) hg.e, hg.g⟩
  have hm := nth_mem hi
  obtain ⟨j, hj, e⟩ := mem_nth (List.mem_filter.1 hm).1
  show okL n (nth (g.Edges.filter p) i).W
  rw [← e]
  exact hg.w j hj
end Go.Ab.M
end
