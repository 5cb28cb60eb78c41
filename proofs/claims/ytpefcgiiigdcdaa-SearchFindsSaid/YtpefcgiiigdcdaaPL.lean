/-
  TEXTS PUT TOGETHER: PlGr3, PlGr4.
-/
import Derived.Test.YtpefcgiiigdcdaaPK
import Derived.Test.YtpefcgiiigdcdaaPG
import Derived.Test.YtpefcgiiigdcdaaTI
section
/-
  PLAIN LAW: GRAPHS, AS THE DOCUMENT TELLS: what is right, edges of a vertex, sums over ways, reaching, pruning.
  Conditions: none.
-/
namespace Go.Ab.M
open Go.Proofs
set_option linter.unusedVariables false
set_option linter.unusedSimpArgs false

instance (p q : Edge) : Decidable (edgeLt p q) := by unfold edgeLt; infer_instance
theorem ref17_Mid_eq {g : Graph} (h : g.shape.sized = true) (v : Int) : ref17_Mid g v = some (g.shape.isMid v) := by
  have hs := sized_iff.1 h
  simp only [Graph.shape] at hs
  simp (disch := omega) only [ref17_Mid, Bool.cond_decide, inK_i64, cond_true, Shape.isMid, Graph.shape, ge_iff_le]
  split
  · rename_i h1; simp [h1]
  · rename_i h1; simp [h1]
theorem ref17_Gone_eq {g : Graph} (hl : g.Gone.length ≤ 1000000) (v : Int) : ref17_Gone g v = some (decide (v ∈ g.Gone)) := by
  have e : ref17_Gone_l g v 0 = some (if (List.range g.Gone.length).all (fun i => !(nth g.Gone i == v)) = true then .inr () else .inl ()) := by
    unfold ref17_Gone_l
    exact loop_all (round := fun σ => ref17_Gone_l_rd g v σ) (fun i => !(nth g.Gone i == v)) g.Gone.length (.inr ()) (.inl ())
      (fun i hi hp => by simp only [Bool.not_eq_true'] at hp; simp (disch := omega) only [ref17_Gone_l_rd, hp, Bool.cond_decide, if_t, inK_i64, cond_true, cond_false])
      (fun i hi hp => by simp only [Bool.not_eq_false'] at hp; simp (disch := omega) only [ref17_Gone_l_rd, hp, Bool.cond_decide, if_t, inK_i64, cond_true, cond_false])
      (by simp only [ref17_Gone_l_rd, Int.lt_irrefl, decide_false, cond_false]) (by simp only [FU]; omega)
  have hm : ((List.range g.Gone.length).all (fun i => !(nth g.Gone i == v)) = true) ↔ v ∉ g.Gone := by
    simp only [List.all_eq_true, List.mem_range, Bool.not_eq_true', beq_eq_false_iff_ne]
    constructor
    · intro h hv
      obtain ⟨i, hi, e⟩ := mem_nth hv
      exact h i hi e
    · intro h i hi e
      exact h (e ▸ nth_mem hi)
  simp only [ref17_Gone, e, Option.bind_some]
  by_cases q : v ∈ g.Gone
  · rw [if_neg (fun h => hm.1 h q), decide_eq_true q]; rfl
  · rw [if_pos (hm.2 q), decide_eq_false q]; rfl
/-- does an edge fit, but for its place? -/
def Graph.edgeFits (g : Graph) (w : Edge) : Bool := decide (0 ≤ w.From) && decide (w.From < g.Ins + g.Mids) && decide (g.Ins ≤ w.To) && decide (w.To < g.Ins + g.Mids + g.Outs) && decide (w.From < w.To) && isR w.W && !decide (w.From ∈ g.Gone) && !decide (w.To ∈ g.Gone)
theorem ref17_edge_eq {g : Graph} {n : Nat} (h : g.shape.sized = true) (hg : g.Gone.length ≤ 1000000) {w : Edge} (hw : okL n w.W) (hn0 : 0 < n) (hn : n ≤ 3000) : ref17_edge g w = some (g.edgeFits w) := by
  have hs := sized_iff.1 h
  simp only [Graph.shape] at hs
  have hR := ref08_Right_eq hw hn0 hn
  unfold Graph.edgeFits
  simp (disch := omega) only [ref17_edge, Bool.cond_decide, inK_i64, cond_true, ref17_Gone_eq hg, hR, Option.bind_some]
  by_cases q1 : w.From < 0
  · rw [if_pos q1, decide_eq_false (show ¬ 0 ≤ w.From by omega)]; rfl
  by_cases q2 : w.From ≥ g.Ins + g.Mids
  · rw [if_neg q1, if_pos q2, decide_eq_false (show ¬ w.From < g.Ins + g.Mids by omega), Bool.and_false]; rfl
  by_cases q3 : w.To < g.Ins
  · rw [if_neg q1, if_neg q2, if_pos q3, decide_eq_false (show ¬ g.Ins ≤ w.To by omega), Bool.and_false]; rfl
  by_cases q4 : w.To ≥ g.Ins + g.Mids + g.Outs
  · rw [if_neg q1, if_neg q2, if_neg q3, if_pos q4, decide_eq_false (show ¬ w.To < g.Ins + g.Mids + g.Outs by omega), Bool.and_false]; rfl
  by_cases q5 : w.To ≤ w.From
  · rw [if_neg q1, if_neg q2, if_neg q3, if_neg q4, if_pos q5, decide_eq_false (show ¬ w.From < w.To by omega), Bool.and_false]; rfl
  rw [if_neg q1, if_neg q2, if_neg q3, if_neg q4, if_neg q5, decide_eq_true (show 0 ≤ w.From by omega), decide_eq_true (show w.From < g.Ins + g.Mids by omega), decide_eq_true (show g.Ins ≤ w.To by omega), decide_eq_true (show w.To < g.Ins + g.Mids + g.Outs by omega), decide_eq_true (show w.From < w.To by omega)]
  cases isR w.W <;> cases decide (w.From ∈ g.Gone) <;> cases decide (w.To ∈ g.Gone) <;> rfl
theorem fits_edge {g : Graph} {i : Nat} (hi : i < g.Edges.length) : g.fits i = (g.edgeFits (nth g.Edges i) && (decide (i = 0) || decide (edgeLt (nth g.Edges (i - 1)) (nth g.Edges i)))) := by
  have hf : g.fits i = (decide (g.pairFits i) && isR (nth g.Edges i).W && !decide ((nth g.Edges i).From ∈ g.Gone) && !decide ((nth g.Edges i).To ∈ g.Gone)) := by
    have : g.shape.fits i = decide (g.pairFits i) := by rw [Bool.eq_iff_iff, decide_eq_true_eq]; exact shape_fits hi
    simp only [Graph.fits, this]
  rw [hf, Bool.eq_iff_iff]
  simp only [Graph.edgeFits, Bool.and_eq_true, Bool.or_eq_true, decide_eq_true_eq]
  unfold Graph.pairFits edgeLt
  constructor
  · rintro ⟨⟨⟨⟨a, b, c, d, e, f⟩, r⟩, s⟩, t⟩; exact ⟨⟨⟨⟨⟨⟨⟨⟨a, b⟩, c⟩, d⟩, e⟩, r⟩, s⟩, t⟩, f⟩
  · rintro ⟨⟨⟨⟨⟨⟨⟨⟨a, b⟩, c⟩, d⟩, e⟩, r⟩, s⟩, t⟩, f⟩; exact ⟨⟨⟨⟨a, b, c, d, e, f⟩, r⟩, s⟩, t⟩
theorem ref17_R1 {g : Graph} (h : g.shape.sized = true) (hl : g.Gone.length ≤ 100000) : ref17_Right_l g 0 = some (if g.goneOk = true then .inr () else .inl ()) := by
  unfold ref17_Right_l Graph.goneOk
  refine loop_all (round := fun σ => ref17_Right_l_rd g σ) g.goneFits g.Gone.length (.inr ()) (.inl ()) (fun i hi hp => ?_) (fun i hi hp => ?_) (by simp only [ref17_Right_l_rd, Int.lt_irrefl, decide_false, cond_false]) (by simp only [FU]; omega)
  · simp only [Graph.goneFits, Bool.and_eq_true, Bool.or_eq_true, decide_eq_true_eq] at hp
    have hm : g.shape.isMid (nth g.Gone i) = true := by show (decide _ && decide _) = true; rw [Bool.and_eq_true, decide_eq_true_eq, decide_eq_true_eq]; exact hp.1
    have e1 : (((i : Nat) : Int) - 1).toNat = i - 1 := by omega
    by_cases h0 : i = 0
    · have n6 : ¬ ((i : Nat) : Int) > 0 := by omega
      simp (disch := omega) only [ref17_Right_l_rd, ref17_Mid_eq h, hm, Bool.not_true, cond_false, Bool.cond_decide, if_t, if_neg n6, inK_i64, cond_true, Option.bind_some]
    · have n6 : ((i : Nat) : Int) > 0 := by omega
      have n7 : ¬ (nth g.Gone (i - 1) ≥ nth g.Gone i) := by omega
      simp (disch := omega) only [ref17_Right_l_rd, ref17_Mid_eq h, hm, e1, Bool.not_true, cond_false, Bool.cond_decide, if_t, if_pos n6, if_neg n7, inK_i64, cond_true, Option.bind_some]
  · have e1 : (((i : Nat) : Int) - 1).toNat = i - 1 := by omega
    have hmm : g.shape.isMid (nth g.Gone i) = (decide (g.Ins ≤ nth g.Gone i) && decide (nth g.Gone i < g.Ins + g.Mids)) := rfl
    cases hm : g.shape.isMid (nth g.Gone i) with
    | false => simp (disch := omega) only [ref17_Right_l_rd, ref17_Mid_eq h, hm, Bool.not_false, Bool.cond_decide, if_t, cond_true, Option.bind_some]
    | true =>
      unfold Graph.goneFits at hp
      rw [← hmm, hm, Bool.true_and, Bool.or_eq_false_iff, decide_eq_false_iff_not, decide_eq_false_iff_not] at hp
      have n6 : ((i : Nat) : Int) > 0 := by omega
      have n7 : nth g.Gone (i - 1) ≥ nth g.Gone i := by omega
      simp (disch := omega) only [ref17_Right_l_rd, ref17_Mid_eq h, hm, e1, Bool.not_true, cond_false, Bool.cond_decide, if_t, if_pos n6, if_pos n7, inK_i64, cond_true, Option.bind_some]
theorem ref17_R2 {g : Graph} {n : Nat} (h : g.shape.sized = true) (hg : g.Ok n) (hn0 : 0 < n) (hn : n ≤ 3000) : ref17_Right_l_2 g 0 = some (if (List.range g.Edges.length).all g.fits = true then .inr () else .inl ()) := by
  have hl := hg.e
  unfold ref17_Right_l_2
  refine loop_all (round := fun σ => ref17_Right_l_2_rd g σ) g.fits g.Edges.length (.inr ()) (.inl ()) (fun i hi hp => ?_) (fun i hi hp => ?_) (by simp only [ref17_Right_l_2_rd, Int.lt_irrefl, decide_false, cond_false]) (by simp only [FU]; omega)
  · have he := ref17_edge_eq h (by have := hg.g; omega) (hg.w i hi) hn0 hn
    rw [fits_edge hi, Bool.and_eq_true, Bool.or_eq_true, decide_eq_true_eq, decide_eq_true_eq] at hp
    rw [hp.1] at he
    have e1 : (((i : Nat) : Int) - 1).toNat = i - 1 := by omega
    by_cases h0 : i = 0
    · have n6 : ¬ ((i : Nat) : Int) > 0 := by omega
      simp (disch := omega) only [ref17_Right_l_2_rd, he, Bool.not_true, cond_false, Bool.cond_decide, if_t, if_neg n6, inK_i64, cond_true, Option.bind_some]
    · have n6 : ((i : Nat) : Int) > 0 := by omega
      have hlt := hp.2.resolve_left h0
      unfold edgeLt at hlt
      have n7 : ¬ ((nth g.Edges (i - 1)).From > (nth g.Edges i).From) := by omega
      by_cases q : (nth g.Edges (i - 1)).From = (nth g.Edges i).From
      · have q' : ((nth g.Edges (i - 1)).From == (nth g.Edges i).From) = true := by rw [beq_iff_eq]; exact q
        have n8 : ¬ ((nth g.Edges (i - 1)).To ≥ (nth g.Edges i).To) := by omega
        simp (disch := omega) only [ref17_Right_l_2_rd, he, e1, q', Bool.not_true, cond_false, Bool.cond_decide, if_t, if_pos n6, if_neg n7, if_neg n8, inK_i64, cond_true, Option.bind_some]
      · have q' : ((nth g.Edges (i - 1)).From == (nth g.Edges i).From) = false := by rw [beq_eq_false_iff_ne]; exact q
        simp (disch := omega) only [ref17_Right_l_2_rd, he, e1, q', Bool.not_true, cond_false, Bool.cond_decide, if_t, if_pos n6, if_neg n7, inK_i64, cond_true, Option.bind_some]
  · have he := ref17_edge_eq h (by have := hg.g; omega) (hg.w i hi) hn0 hn
    rw [fits_edge hi] at hp
    cases hf : g.edgeFits (nth g.Edges i) with
    | false =>
      rw [hf] at he
      simp (disch := omega) only [ref17_Right_l_2_rd, he, Bool.not_false, Bool.cond_decide, if_t, cond_true, Option.bind_some]
    | true =>
      rw [hf] at he
      rw [hf, Bool.true_and, Bool.or_eq_false_iff, decide_eq_false_iff_not, decide_eq_false_iff_not] at hp
      have e1 : (((i : Nat) : Int) - 1).toNat = i - 1 := by omega
      have n6 : ((i : Nat) : Int) > 0 := by omega
      have hlt := hp.2
      unfold edgeLt at hlt
      by_cases q0 : (nth g.Edges (i - 1)).From > (nth g.Edges i).From
      · simp (disch := omega) only [ref17_Right_l_2_rd, he, e1, Bool.not_true, cond_false, Bool.cond_decide, if_t, if_pos n6, if_pos q0, inK_i64, cond_true, Option.bind_some]
      · have q : (nth g.Edges (i - 1)).From = (nth g.Edges i).From := by omega
        have q' : ((nth g.Edges (i - 1)).From == (nth g.Edges i).From) = true := by rw [beq_iff_eq]; exact q
        have n8 : (nth g.Edges (i - 1)).To ≥ (nth g.Edges i).To := by omega
        simp (disch := omega) only [ref17_Right_l_2_rd, he, e1, q', Bool.not_true, cond_false, Bool.cond_decide, if_t, if_pos n6, if_neg q0, if_pos n8, inK_i64, cond_true, Option.bind_some]
theorem ref17_Right_eq {g : Graph} {n : Nat} (hg : g.Ok n) (hn0 : 0 < n) (hn : n ≤ 3000) : ref17_Right g = some g.right := by
  have hz : g.shape.sized = (decide (1 ≤ g.Ins) && decide (g.Ins ≤ 40) && decide (1 ≤ g.Outs) && decide (g.Outs ≤ 40) && decide (0 ≤ g.Mids) && decide (g.Mids ≤ 400)) := rfl
  have hno : ∀ {p : Prop}, g.shape.sized = false → g.right = false := fun h => by unfold Graph.right; rw [h]; rfl
  unfold ref17_Right
  by_cases q1 : g.Ins < 1
  · rw [decide_eq_true q1, cond_true, hno (p := True) (by rw [hz, decide_eq_false (show ¬ 1 ≤ g.Ins by omega)]; rfl)]
  by_cases q2 : g.Ins > 40
  · rw [decide_eq_false q1, cond_false, decide_eq_true q2, cond_true, hno (p := True) (by rw [hz, decide_eq_false (show ¬ g.Ins ≤ 40 by omega), Bool.and_false]; rfl)]
  by_cases q3 : g.Outs < 1
  · rw [decide_eq_false q1, cond_false, decide_eq_false q2, cond_false, decide_eq_true q3, cond_true, hno (p := True) (by rw [hz, decide_eq_false (show ¬ 1 ≤ g.Outs by omega), Bool.and_false]; rfl)]
  by_cases q4 : g.Outs > 40
  · rw [decide_eq_false q1, cond_false, decide_eq_false q2, cond_false, decide_eq_false q3, cond_false, decide_eq_true q4, cond_true, hno (p := True) (by rw [hz, decide_eq_false (show ¬ g.Outs ≤ 40 by omega), Bool.and_false]; rfl)]
  by_cases q5 : g.Mids < 0
  · rw [decide_eq_false q1, cond_false, decide_eq_false q2, cond_false, decide_eq_false q3, cond_false, decide_eq_false q4, cond_false, decide_eq_true q5, cond_true, hno (p := True) (by rw [hz, decide_eq_false (show ¬ 0 ≤ g.Mids by omega), Bool.and_false]; rfl)]
  by_cases q6 : g.Mids > 400
  · rw [decide_eq_false q1, cond_false, decide_eq_false q2, cond_false, decide_eq_false q3, cond_false, decide_eq_false q4, cond_false, decide_eq_false q5, cond_false, decide_eq_true q6, cond_true, hno (p := True) (by rw [hz, decide_eq_false (show ¬ g.Mids ≤ 400 by omega), Bool.and_false])]
  have hs : g.shape.sized = true := sized_iff.2 (by simp only [Graph.shape]; omega)
  rw [decide_eq_false q1, cond_false, decide_eq_false q2, cond_false, decide_eq_false q3, cond_false, decide_eq_false q4, cond_false, decide_eq_false q5, cond_false, decide_eq_false q6, cond_false]
  simp only [ref17_R1 hs hg.g, ref17_R2 hs hg hn0 hn, Option.bind_some, Graph.right, hs, Bool.true_and]
  cases hq : g.goneOk with
  | false => rfl
  | true =>
    cases hp : (List.range g.Edges.length).all g.fits with
    | false => rfl
    | true => rfl

/-! ### reaching -/
end Go.Ab.M
end

section
/-
  PLAIN LAW: SUMS OVER WAYS, AND WHETHER ALL HAVE ONE EDGE, AS THE DOCUMENT TELLS; graphs that are one.
  Conditions: none.
-/
namespace Go.Ab.M
open Go.Proofs
set_option linter.unusedVariables false
set_option linter.unusedSimpArgs false

/-! ### all ways of one edge -/
/-! ### what is one with itself -/
end Go.Ab.M
namespace Go.Ab.M
set_option linter.unusedVariables false
end Go.Ab.M
end
