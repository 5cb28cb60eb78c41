/-
  TEXTS PUT TOGETHER: PlGr3, PlGr4.
-/
import Derived.Test.YtpefcgiiigdcdaaGreatPK
import Derived.Test.YtpefcgiiigdcdaaGreatPG
import Derived.Test.YtpefcgiiigdcdaaGreatTI
section
/-
  PLAIN LAW: GRAPHS, AS THE DOCUMENT TELLS: what is right, edges of a vertex, sums over ways, reaching, pruning.
  Conditions: none.
-/
namespace Go.Ab.M
open Go.Proofs
set_option linter.unusedVariables false
set_option linter.unusedSimpArgs false

instance (p q : Edge) : Decidable (edgeLt p q) := by unfold edgeLt; infer_instance
theorem ref17_Mid_eq {g : Graph} (h : g.shape.sized = true) (v : Int) : ref17_Mid g v = some (g.shape.isMid v) := by
  have hs := sized_iff.1 h
  simp only [Graph.shape] at hs
  simp (disch := omega) only [ref17_Mid, Bool.cond_decide, inK_i64, cond_true, Shape.isMid, Graph.shape, ge_iff_le]
  split
  · rename_i h1; simp [h1]
  · rename_i h1; simp [h1]
theorem ref17_Gone_eq {g : Graph} (hl : g.Gone.length ≤ 1000000) (v : Int) : ref17_Gone g v = some (decide (v ∈ g.Gone)) := by
  have e : ref17_Gone_l g v 0 = some (if (List.range g.Gone.length).all (fun i => !(nth g.Gone i == v)) = true then .inr () else .inl ()) := by
    unfold ref17_Gone_l
    exact loop_all (round := fun σ => ref17_Gone_l_rd g v σ) (fun i => !(nth g.Gone i == v)) g.Gone.length (.inr ()) (.inl ())
      (fun i hi hp => by simp only [Bool.not_eq_true'] at hp; simp (disch := omega) only [ref17_Gone_l_rd, hp, Bool.cond_decide, if_t, inK_i64, cond_true, cond_false])
      (fun i hi hp => by simp only [Bool.not_eq_false'] at hp; simp (disch := omega) only [ref17_Gone_l_rd, hp, Bool.cond_decide, if_t, inK_i64, cond_true, cond_false])
      (by simp only [ref17_Gone_l_rd, Int.lt_irrefl, decide_false, cond_false]) (by simp only [FU]; omega)
  have hm : ((List.range g.Gone.length).all (fun i => !(nth g.Gone i == v)) = true) ↔ v ∉ g.Gone := by
    simp only [List.all_eq_true, List.mem_range, Bool.not_eq_true', beq_eq_false_iff_ne]
    constructor
    · intro h hv
      obtain ⟨i, hi, e⟩ := mem_nth hv
      exact h i hi e
    · intro h i hi e
      exact h (e ▸ nth_mem hi)
  simp only [ref17_Gone, e, Option.bind_some]
  by_cases q : v ∈ g.Gone
  · rw [if_neg (fun h => hm.1 h q), decide_eq_true q]; rfl
  · rw [if_pos (hm.2 q), decide_eq_false q]; rfl
/-- does an edge fit, but for its place? -/
def Graph.edgeFits (g : Graph) (w : Edge) : Bool := decide (0 ≤ w.From) && decide (w.From < g.Ins + g.Mids) && decide (g.Ins ≤ w.To) && decide (w.To < g.Ins + g.Mids + g.Outs) && decide (w.From < w.To) && isR w.W && !decide (w.From ∈ g.Gone) && !decide (w.To ∈ g.Gone)
theorem ref17_edge_eq {g : Graph} {n : Nat} (h : g.shape.sized = true) (hg : g.Gone.length ≤ 1000000) {w : Edge} (hw : okL n w.W) (hn0 : 0 < n) (hn : n ≤ 3000) : ref17_edge g w = some (g.edgeFits w) := by
  have hs := sized_iff.1 h
  simp only [Graph.shape] at hs
  have hR := ref08_Right_eq hw hn0 hn
  unfold Graph.edgeFits
  simp (disch := omega) only [ref17_edge, Bool.cond_decide, inK_i64, cond_true, ref17_Gone_eq hg, hR, Option.bind_some]
  by_cases q1 : w.From < 0
  · rw [if_pos q1, decide_eq_false (show ¬ 0 ≤ w.From by omega)]; rfl
  by_cases q2 : w.From ≥ g.Ins + g.Mids
  · rw [if_neg q1, if_pos q2, decide_eq_false (show ¬ w.From < g.Ins + g.Mids by omega), Bool.and_false]; rfl
  by_cases q3 : w.To < g.Ins
  · rw [if_neg q1, if_neg q2, if_pos q3, decide_eq_false (show ¬ g.Ins ≤ w.To by omega), Bool.and_false]; rfl
  by_cases q4 : w.To ≥ g.Ins + g.Mids + g.Outs
  · rw [if_neg q1, if_neg q2, if_neg q3, if_pos q4, decide_eq_false (show ¬ w.To < g.Ins + g.Mids + g.Outs by omega), Bool.and_false]; rfl
  by_cases q5 : w.To ≤ w.From
  · rw [if_neg q1, if_neg q2, if_neg q3, if_neg q4, if_pos q5, decide_eq_false (show ¬ w.From < w.To by omega), Bool.and_false]; rfl
  rw [if_neg q1, if_neg q2, if_neg q3, if_neg q4, if_neg q5, decide_eq_true (show 0 ≤ w.From by omega), decide_eq_true (show w.From < g.Ins + g.Mids by omega), decide_eq_true (show g.Ins ≤ w.To by omega), decide_eq_true (show w.To < g.Ins + g.Mids + g.Outs by omega), decide_eq_true (show w.From < w.To by omega)]
  cases isR w.W <;> cases decide (w.From ∈ g.Gone) <;> cases decide (w.To ∈ g.Gone) <;> rfl
theorem fits_edge {g : Graph} {i : Nat} (hi : i < g.Edges.length) : g.fits i = (g.edgeFits (nth g.Edges i) && (decide (i = 0) || decide (edgeLt (nth g.Edges (i - 1)) (nth g.Edges i)))) := by
  have hf : g.fits i = (decide (g.pairFits i) && isR (nth g.Edges i).W && !decide ((nth g.Edges i).From ∈ g.Gone) && !decide ((nth g.Edges i).To ∈ g.Gone)) := by
    have : g.shape.fits i = decide (g.pairFits i) := by rw [Bool.eq_iff_iff, decide_eq_true_eq]; exact shape_fits hi
    simp only [Graph.fits, this]
  rw [hf, Bool.eq_iff_iff]
  simp only [Graph.edgeFits, Bool.and_eq_true, Bool.or_eq_true, decide_eq_true_eq]
  unfold Graph.pairFits edgeLt
  constructor
  · rintro ⟨⟨⟨⟨a, b, c, d, e, f⟩, r⟩, s⟩, t⟩; exact ⟨⟨⟨⟨⟨⟨⟨⟨a, b⟩, c⟩, d⟩, e⟩, r⟩, s⟩, t⟩, f⟩
  · rintro ⟨⟨⟨⟨⟨⟨⟨⟨a, b⟩, c⟩, d⟩, e⟩, r⟩, s⟩, t⟩, f⟩; exact ⟨⟨⟨⟨a, b, c, d, e, f⟩, r⟩, s⟩, t⟩
theorem ref17_R1 {g : Graph} (h : g.shape.sized = true) (hl : g.Gone.length ≤ 100000) : ref17_Right_l g 0 = some (if g.goneOk = true then .inr () else .inl ()) := by
  unfold ref17_Right_l Graph.goneOk
  refine loop_all (round := fun σ => ref17_Right_l_rd g σ) g.goneFits g.Gone.length (.inr ()) (.inl ()) (fun i hi hp => ?_) (fun i hi hp => ?_) (by simp only [ref17_Right_l_rd, Int.lt_irrefl, decide_false, cond_false]) (by simp only [FU]; omega)
  · simp only [Graph.goneFits, Bool.and_eq_true, Bool.or_eq_true, decide_eq_true_eq] at hp
    have hm : g.shape.isMid (nth g.Gone i) = true := by show (decide _ && decide _) = true; rw [Bool.and_eq_true, decide_eq_true_eq, decide_eq_true_eq]; exact hp.1
    have e1 : (((i : Nat) : Int) - 1).toNat = i - 1 := by omega
    by_cases h0 : i = 0
    · have n6 : ¬ ((i : Nat) : Int) > 0 := by omega
      simp (disch := omega) only [ref17_Right_l_rd, ref17_Mid_eq h, hm, Bool.not_true, cond_false, Bool.cond_decide, if_t, if_neg n6, inK_i64, cond_true, Option.bind_some]
    · have n6 : ((i : Nat) : Int) > 0 := by omega
      have n7 : ¬ (nth g.Gone (i - 1) ≥ nth g.Gone i) := by omega
      simp (disch := omega) only [ref17_Right_l_rd, ref17_Mid_eq h, hm, e1, Bool.not_true, cond_false, Bool.cond_decide, if_t, if_pos n6, if_neg n7, inK_i64, cond_true, Option.bind_some]
  · have e1 : (((i : Nat) : Int) - 1).toNat = i - 1 := by omega
    have hmm : g.shape.isMid (nth g.Gone i) = (decide (g.Ins ≤ nth g.Gone i) && decide (nth g.Gone i < g.Ins + g.Mids)) := rfl
    cases hm : g.shape.isMid (nth g.Gone i) with
    | false => simp (disch := omega) only [ref17_Right_l_rd, ref17_Mid_eq h, hm, Bool.not_false, Bool.cond_decide, if_t, cond_true, Option.bind_some]
    | true =>
      unfold Graph.goneFits at hp
      rw [← hmm, hm, Bool.true_and, Bool.or_eq_false_iff, decide_eq_false_iff_not, decide_eq_false_iff_not] at hp
      have n6 : ((i : Nat) : Int) > 0 := by omega
      have n7 : nth g.Gone (i - 1) ≥ nth g.Gone i := by omega
      simp (disch := omega) only [ref17_Right_l_rd, ref17_Mid_eq h, hm, e1, Bool.not_true, cond_false, Bool.cond_decide, if_t, if_pos n6, if_pos n7, inK_i64, cond_true, Option.bind_some]
theorem ref17_R2 {g : Graph} {n : Nat} (h : g.shape.sized = true) (hg : g.Ok n) (hn0 : 0 < n) (hn : n ≤ 3000) : ref17_Right_l_2 g 0 = some (if (List.range g.Edges.length).all g.fits = true then .inr () else .inl ()) := by
  have hl := hg.e
  unfold ref17_Right_l_2
  refine loop_all (round := fun σ => ref17_Right_l_2_rd g σ) g.fits g.Edges.length (.inr ()) (.inl ()) (fun i hi hp => ?_) (fun i hi hp => ?_) (by simp only [ref17_Right_l_2_rd, Int.lt_irrefl, decide_false, cond_false]) (by simp only [FU]; omega)
  · have he := ref17_edge_eq h (by have := hg.g; omega) (hg.w i hi) hn0 hn
    rw [fits_edge hi, Bool.and_eq_true, Bool.or_eq_true, decide_eq_true_eq, decide_eq_true_eq] at hp
    rw [hp.1] at he
    have e1 : (((i : Nat) : Int) - 1).toNat = i - 1 := by omega
    by_cases h0 : i = 0
    · have n6 : ¬ ((i : Nat) : Int) > 0 := by omega
      simp (disch := omega) only [ref17_Right_l_2_rd, he, Bool.not_true, cond_false, Bool.cond_decide, if_t, if_neg n6, inK_i64, cond_true, Option.bind_some]
    · have n6 : ((i : Nat) : Int) > 0 := by omega
      have hlt := hp.2.resolve_left h0
      unfold edgeLt at hlt
      have n7 : ¬ ((nth g.Edges (i - 1)).From > (nth g.Edges i).From) := by omega
      by_cases q : (nth g.Edges (i - 1)).From = (nth g.Edges i).From
      · have q' : ((nth g.Edges (i - 1)).From == (nth g.Edges i).From) = true := by rw [beq_iff_eq]; exact q
        have n8 : ¬ ((nth g.Edges (i - 1)).To ≥ (nth g.Edges i).To) := by omega
        simp (disch := omega) only [ref17_Right_l_2_rd, he, e1, q', Bool.not_true, cond_false, Bool.cond_decide, if_t, if_pos n6, if_neg n7, if_neg n8, inK_i64, cond_true, Option.bind_some]
      · have q' : ((nth g.Edges (i - 1)).From == (nth g.Edges i).From) = false := by rw [beq_eq_false_iff_ne]; exact q
        simp (disch := omega) only [ref17_Right_l_2_rd, he, e1, q', Bool.not_true, cond_false, Bool.cond_decide, if_t, if_pos n6, if_neg n7, inK_i64, cond_true, Option.bind_some]
  · have he := ref17_edge_eq h (by have := hg.g; omega) (hg.w i hi) hn0 hn
    rw [fits_edge hi] at hp
    cases hf : g.edgeFits (nth g.Edges i) with
    | false =>
      rw [hf] at he
      simp (disch := omega) only [ref17_Right_l_2_rd, he, Bool.not_false, Bool.cond_decide, if_t, cond_true, Option.bind_some]
    | true =>
      rw [hf] at he
      rw [hf, Bool.true_and, Bool.or_eq_false_iff, decide_eq_false_iff_not, decide_eq_false_iff_not] at hp
      have e1 : (((i : Nat) : Int) - 1).toNat = i - 1 := by omega
      have n6 : ((i : Nat) : Int) > 0 := by omega
      have hlt := hp.2
      unfold edgeLt at hlt
      by_cases q0 : (nth g.Edges (i - 1)).From > (nth g.Edges i).From
      · simp (disch := omega) only [ref17_Right_l_2_rd, he, e1, Bool.not_true, cond_false, Bool.cond_decide, if_t, if_pos n6, if_pos q0, inK_i64, cond_true, Option.bind_some]
      · have q : (nth g.Edges (i - 1)).From = (nth g.Edges i).From := by omega
        have q' : ((nth g.Edges (i - 1)).From == (nth g.Edges i).From) = true := by rw [beq_iff_eq]; exact q
        have n8 : (nth g.Edges (i - 1)).To ≥ (nth g.Edges i).To := by omega
        simp (disch := omega) only [ref17_Right_l_2_rd, he, e1, q', Bool.not_true, cond_false, Bool.cond_decide, if_t, if_pos n6, if_neg q0, if_pos n8, inK_i64, cond_true, Option.bind_some]
theorem ref17_Right_eq {g : Graph} {n : Nat} (hg : g.Ok n) (hn0 : 0 < n) (hn : n ≤ 3000) : ref17_Right g = some g.right := by
  have hz : g.shape.sized = (decide (1 ≤ g.Ins) && decide (g.Ins ≤ 40) && decide (1 ≤ g.Outs) && decide (g.Outs ≤ 40) && decide (0 ≤ g.Mids) && decide (g.Mids ≤ 400)) := rfl
  have hno : ∀ {p : Prop}, g.shape.sized = false → g.right = false := fun h => by unfold Graph.right; rw [h]; rfl
  unfold ref17_Right
  by_cases q1 : g.Ins < 1
  · rw [decide_eq_true q1, cond_true, hno (p := True) (by rw [hz, decide_eq_false (show ¬ 1 ≤ g.Ins by omega)]; rfl)]
  by_cases q2 : g.Ins > 40
  · rw [decide_eq_false q1, cond_false, decide_eq_true q2, cond_true, hno (p := True) (by rw [hz, decide_eq_false (show ¬ g.Ins ≤ 40 by omega), Bool.and_false]; rfl)]
  by_cases q3 : g.Outs < 1
  · rw [decide_eq_false q1, cond_false, decide_eq_false q2, cond_false, decide_eq_true q3, cond_true, hno (p := True) (by rw [hz, decide_eq_false (show ¬ 1 ≤ g.Outs by omega), Bool.and_false]; rfl)]
  by_cases q4 : g.Outs > 40
  · rw [decide_eq_false q1, cond_false, decide_eq_false q2, cond_false, decide_eq_false q3, cond_false, decide_eq_true q4, cond_true, hno (p := True) (by rw [hz, decide_eq_false (show ¬ g.Outs ≤ 40 by omega), Bool.and_false]; rfl)]
  by_cases q5 : g.Mids < 0
  · rw [decide_eq_false q1, cond_false, decide_eq_false q2, cond_false, decide_eq_false q3, cond_false, decide_eq_false q4, cond_false, decide_eq_true q5, cond_true, hno (p := True) (by rw [hz, decide_eq_false (show ¬ 0 ≤ g.Mids by omega), Bool.and_false]; rfl)]
  by_cases q6 : g.Mids > 400
  · rw [decide_eq_false q1, cond_false, decide_eq_false q2, cond_false, decide_eq_false q3, cond_false, decide_eq_false q4, cond_false, decide_eq_false q5, cond_false, decide_eq_true q6, cond_true, hno (p := True) (by rw [hz, decide_eq_false (show ¬ g.Mids ≤ 400 by omega), Bool.and_false])]
  have hs : g.shape.sized = true := sized_iff.2 (by simp only [Graph.shape]; omega)
  rw [decide_eq_false q1, cond_false, decide_eq_false q2, cond_false, decide_eq_false q3, cond_false, decide_eq_false q4, cond_false, decide_eq_false q5, cond_false, decide_eq_false q6, cond_false]
  simp only [ref17_R1 hs hg.g, ref17_R2 hs hg hn0 hn, Option.bind_some, Graph.right, hs, Bool.true_and]
  cases hq : g.goneOk with
  | false => rfl
  | true =>
    cases hp : (List.range g.Edges.length).all g.fits with
    | false => rfl
    | true => rfl

theorem ins_pe {g : Graph} {I M O : Nat} (h : RGr g I M O) (v : Nat) : (g.ins (v : Int)).map Edge.pe = g.E.filter fun e => decide (e.t = v) := by
  unfold Graph.ins Graph.E
  rw [List.filter_map]
  congr 1
  refine List.filter_congr fun w hw => ?_
  have := h.e w hw
  show (w.To == (v : Int)) = decide (w.To.toNat = v)
  rw [Bool.eq_iff_iff, beq_iff_eq, decide_eq_true_eq]
  omega
theorem outs_pe {g : Graph} {I M O : Nat} (h : RGr g I M O) (v : Nat) : (g.outs (v : Int)).map Edge.pe = g.E.filter fun e => decide (e.f = v) := by
  unfold Graph.outs Graph.E
  rw [List.filter_map]
  congr 1
  refine List.filter_congr fun w hw => ?_
  have := h.e w hw
  show (w.From == (v : Int)) = decide (w.From.toNat = v)
  rw [Bool.eq_iff_iff, beq_iff_eq, decide_eq_true_eq]
  omega

/-! ### reaching -/
theorem any_pe (l : List Edge) (q : PE → Bool) : (l.any fun w => q w.pe) = (l.map Edge.pe).any q := by rw [List.any_map]; rfl
theorem fr_last {g : Graph} {I M O : Nat} (h : RGr g I M O) (v : Nat) : fr I g.E v = (decide (v < I) || (g.ins (v : Int)).any fun w => fr I g.E w.From.toNat) := by
  have := foldF_last (l := g.E) (sIn I) v g.E [] (List.append_nil _) h.fwd
  unfold fr
  rw [this, ← ins_pe h, ← any_pe]
  rfl
theorem to_first {g : Graph} {I M O : Nat} (h : RGr g I M O) (v : Nat) : to_ (I + M) g.E v = (decide (I + M ≤ v) || (g.outs (v : Int)).any fun w => to_ (I + M) g.E w.To.toNat) := by
  have := bkB_first (l := g.E) (sOut (I + M)) v (r := g.E) (p := []) rfl h.fwd
  unfold to_
  rw [this, ← outs_pe h, ← any_pe]
  rfl
theorem gmem_ins {g : Graph} {v : Int} {w : Edge} (h : w ∈ g.ins v) : w ∈ g.Edges ∧ w.To = v := by
  unfold Graph.ins at h
  rw [List.mem_filter, beq_iff_eq] at h
  exact h
theorem gmem_outs {g : Graph} {v : Int} {w : Edge} (h : w ∈ g.outs v) : w ∈ g.Edges ∧ w.From = v := by
  unfold Graph.outs at h
  rw [List.mem_filter, beq_iff_eq] at h
  exact h
/-- WHAT IS PRUNED, BY THE DOCUMENT -/
def Graph.prune (g : Graph) (I M : Nat) : Graph := ⟨g.Ins, g.Mids, g.Outs, g.Edges.filter (keepB I M g.E), g.Gone⟩
end Go.Ab.M
end

section
/-
  PLAIN LAW: SUMS OVER WAYS, AND WHETHER ALL HAVE ONE EDGE, AS THE DOCUMENT TELLS; graphs that are one.
  Conditions: none.
-/
namespace Go.Ab.M
open Go.Proofs
set_option linter.unusedVariables false
set_option linter.unusedSimpArgs false

/-! ### all ways of one edge -/
/-! ### what is one with itself -/
/-- a graph of a size that is looked at -/
def fewG (g : Graph) : Prop := g.Ins ≤ 4 ∧ g.Outs ≤ 4 ∧ g.Mids ≤ 7 ∧ g.Edges.length ≤ 40 ∧ g.Gone.length ≤ 10 ∧ ∀ w, w ∈ g.Edges → w.W.Num.length ≤ 2 ∧ w.W.Den.length ≤ 2
theorem ref17_Few_eq (g : Graph) : (fewG g → ref17_Few g = some true) ∧ (¬ fewG g → ref17_Few g = some false) := by
  have one : ∀ w : Edge, ref08_Few [w.W] 2 = some (decide (w.W.Num.length ≤ 2 ∧ w.W.Den.length ≤ 2)) := fun w => by
    have := Few_eq (l := [w.W]) (by simp) 2
    rw [show ((2 : Nat) : Int) = 2 from rfl] at this
    rw [this]
    congr 1
    simp
  have loop : g.Edges.length ≤ 40 → ref17_Few_l g 0 = some (if (List.range g.Edges.length).all (fun i => decide ((nth g.Edges i).W.Num.length ≤ 2 ∧ (nth g.Edges i).W.Den.length ≤ 2)) = true then .inr () else .inl ()) := fun h40 => by
    unfold ref17_Few_l
    refine loop_all (round := fun σ => ref17_Few_l_rd g σ) (fun i => decide ((nth g.Edges i).W.Num.length ≤ 2 ∧ (nth g.Edges i).W.Den.length ≤ 2)) g.Edges.length (.inr ()) (.inl ()) (fun i hi hp => ?_) (fun i hi hp => ?_) ?_ (by simp only [FU]; omega)
    · simp (disch := omega) only [ref17_Few_l_rd, one, hp, Bool.not_true, cond_false, Option.bind_some, Bool.cond_decide, if_t, inK_i64, cond_true]
    · simp (disch := omega) only [ref17_Few_l_rd, one, hp, Bool.not_false, Option.bind_some, Bool.cond_decide, if_t, cond_true]
    · simp only [ref17_Few_l_rd, Int.lt_irrefl, decide_false, cond_false]
  have al : ((List.range g.Edges.length).all (fun i => decide ((nth g.Edges i).W.Num.length ≤ 2 ∧ (nth g.Edges i).W.Den.length ≤ 2)) = true) ↔ ∀ w, w ∈ g.Edges → w.W.Num.length ≤ 2 ∧ w.W.Den.length ≤ 2 := by
    rw [List.all_eq_true]
    constructor
    · intro h w hw
      obtain ⟨i, hi, rfl⟩ := mem_nth hw
      exact of_decide_eq_true (h i (by simpa using hi))
    · intro h i hi
      exact decide_eq_true (h _ (nth_mem (by simpa using hi)))
  unfold fewG ref17_Few
  constructor
  · rintro ⟨a1, a2, a3, a4, a5, a6⟩
    rw [decide_eq_false (show ¬ g.Ins > 4 by omega), cond_false, decide_eq_false (show ¬ g.Outs > 4 by omega), cond_false, decide_eq_false (show ¬ g.Mids > 7 by omega), cond_false, decide_eq_false (show ¬ ((g.Edges.length : Nat) : Int) > 40 by omega), cond_false, decide_eq_false (show ¬ ((g.Gone.length : Nat) : Int) > 10 by omega), cond_false, loop a4, if_pos (al.2 a6)]
    rfl
  · intro hn
    by_cases q1 : g.Ins > 4
    · rw [decide_eq_true q1, cond_true]
    by_cases q2 : g.Outs > 4
    · rw [decide_eq_false q1, cond_false, decide_eq_true q2, cond_true]
    by_cases q3 : g.Mids > 7
    · rw [decide_eq_false q1, cond_false, decide_eq_false q2, cond_false, decide_eq_true q3, cond_true]
    by_cases q4 : ((g.Edges.length : Nat) : Int) > 40
    · rw [decide_eq_false q1, cond_false, decide_eq_false q2, cond_false, decide_eq_false q3, cond_false, decide_eq_true q4, cond_true]
    by_cases q5 : ((g.Gone.length : Nat) : Int) > 10
    · rw [decide_eq_false q1, cond_false, decide_eq_false q2, cond_false, decide_eq_false q3, cond_false, decide_eq_false q4, cond_false, decide_eq_true q5, cond_true]
    rw [decide_eq_false q1, cond_false, decide_eq_false q2, cond_false, decide_eq_false q3, cond_false, decide_eq_false q4, cond_false, decide_eq_false q5, cond_false, loop (by omega), if_neg fun h => hn ⟨by omega, by omega, by omega, by omega, by omega, al.1 h⟩]
    rfl
end Go.Ab.M
namespace Go.Ab.M
set_option linter.unusedVariables false
theorem graph_Prune_eq {g : Graph} {I M O n : Nat} (h : RGr g I M O) (hg : g.Ok n) (hn : n ≤ 10000000) : graph_Prune g = some (g.prune I M) := by
  have i2 := h.i2; have m2 := h.m2; have o2 := h.o2; have i1 := h.i1
  have t1 : ((I : Int) + (M : Int) + (O : Int)).toNat = I + M + O := by omega
  have hc : slices_Clone_int_int g.Gone = some g.Gone := by
    have := hg.g
    unfold slices_Clone_int_int
    rw [decide_eq_true (by omega)]; rfl
  simp (disch := omega) only [graph_Prune, graph_Right_eq hn hg, h.right, h.i, h.m, h.o, t1, Prune_l h, Prune_l2 h hg.e, picked1_eq h hg.e, hc, Option.bind_some, Bool.not_true, cond_false, Bool.cond_decide, if_t, inK_i64, cond_true]
  rw [Graph.prune, h.i, h.m, h.o]
theorem Ok.filter {g : Graph} {n : Nat} (hg : g.Ok n) (p : Edge → Bool) : (Graph.mk g.Ins g.Mids g.Outs (g.Edges.filter p) g.Gone).Ok n := by
  refine ⟨fun i hi => ?_, Nat.le_trans (List.length_filter_le _ _) hg.e, hg.g⟩
  have hm := nth_mem hi
  obtain ⟨j, hj, e⟩ := mem_nth (List.mem_filter.1 hm).1
  show okL n (nth (g.Edges.filter p) i).W
  rw [← e]
  exact hg.w j hj
end Go.Ab.M
end
