/-
  TEXTS PUT TOGETHER: PlGr3, PlGr4.
-/
import Derived.Test.YtbimmkikjkhglaaGreatPK
import Derived.Test.YtbimmkikjkhglaaGreatPG
import Derived.Test.YtbimmkikjkhglaaGreatTI
section
/-
  PLAIN LAW: GRAPHS, AS THE DOCUMENT TELLS: what is right, edges of a vertex, sums over ways, reaching, pruning.
  Conditions: none.
-/
namespace Go.Ab.M
open Go.Proofs
set_option linter.unusedVariables false
set_option linter.unusedSimpArgs false

instance (p q : Edge) : Decidable (edgeLt p q) := by unfold edgeLt; infer_instance
theorem ref17_Mid_eq {g : Graph} (h : g.shape.sized = true) (v : Int) : ref17_Mid g v = some (g.shape.isMid v) := by
  have hs := sized_iff.1 h
  simp only [Graph.shape] at hs
  simp (disch := omega) only [ref17_Mid, Bool.cond_decide, inK_i64, cond_true, Shape.isMid, Graph.shape, ge_iff_le]
  split
  · rename_i h1; simp [h1]
  · rename_i h1; simp [h1]
theorem ref17_Gone_eq {g : Graph} (hl : g.Gone.length ≤ 1000000) (v : Int) : ref17_Gone g v = some (decide (v ∈ g.Gone)) := by
  have e : ref17_Gone_l g v 0 = some (if (List.range g.Gone.length).all (fun i => !(nth g.Gone i == v)) = true then .inr () else .inl ()) := by
    unfold ref17_Gone_l
    exact loop_all (round := fun σ => ref17_Gone_l_rd g v σ) (fun i => !(nth g.Gone i == v)) g.Gone.length (.inr ()) (.inl ())
      (fun i hi hp => by simp only [Bool.not_eq_true'] at hp; simp (disch := omega) only [ref17_Gone_l_rd, hp, Bool.cond_decide, if_t, inK_i64, cond_true, cond_false])
      (fun i hi hp => by simp only [Bool.not_eq_false'] at hp; simp (disch := omega) only [ref17_Gone_l_rd, hp, Bool.cond_decide, if_t, inK_i64, cond_true, cond_false])
      (by simp only [ref17_Gone_l_rd, Int.lt_irrefl, decide_false, cond_false]) (by simp only [FU]; omega)
  have hm : ((List.range g.Gone.length).all (fun i => !(nth g.Gone i == v)) = true) ↔ v ∉ g.Gone := by
    simp only [List.all_eq_true, List.mem_range, Bool.not_eq_true', beq_eq_false_iff_ne]
    constructor
    · intro h hv
      obtain ⟨i, hi, e⟩ := mem_nth hv
      exact h i hi e
    · intro h i hi e
      exact h (e ▸ nth_mem hi)
  simp only [ref17_Gone, e, Option.bind_some]
  by_cases q : v ∈ g.Gone
  · rw [if_neg (fun h => hm.1 h q), decide_eq_true q]; rfl
  · rw [if_pos (hm.2 q), decide_eq_false q]; rfl
/-- does an edge fit, but for its place? -/
def Graph.edgeFits (g : Graph) (w : Edge) : Bool := decide (0 ≤ w.From) && decide (w.From < g.Ins + g.Mids) && decide (g.Ins ≤ w.To) && decide (w.To < g.Ins + g.Mids + g.Outs) && decide (w.From < w.To) && isR w.W && !decide (w.From ∈ g.Gone) && !decide (w.To ∈ g.Gone)
theorem ref17_edge_eq {g : Graph} {n : Nat} (h : g.shape.sized = true) (hg : g.Gone.length ≤ 1000000) {w : Edge} (hw : okL n w.W) (hn0 : 0 < n) (hn : n ≤ 3000) : ref17_edge g w = some (g.edgeFits w) := by
  have hs := sized_iff.1 h
  simp only [Graph.shape] at hs
  have hR := ref08_Right_eq hw hn0 hn
  unfold Graph.edgeFits
  simp (disch := omega) only [ref17_edge, Bool.cond_decide, inK_i64, cond_true, ref17_Gone_eq hg, hR, Option.bind_some]
  by_cases q1 : w.From < 0
  · rw [if_pos q1, decide_eq_false (show ¬ 0 ≤ w.From by omega)]; rfl
  by_cases q2 : w.From ≥ g.Ins + g.Mids
  · rw [if_neg q1, if_pos q2, decide_eq_false (show ¬ w.From < g.Ins + g.Mids by omega), Bool.and_false]; rfl
  by_cases q3 : w.To < g.Ins
  · rw [if_neg q1, if_neg q2, if_pos q3, decide_eq_false (show ¬ g.Ins ≤ w.To by omega), Bool.and_false]; rfl
  by_cases q4 : w.To ≥ g.Ins + g.Mids + g.Outs
  · rw [if_neg q1, if_neg q2, if_neg q3, if_pos q4, decide_eq_false (show ¬ w.To < g.Ins + g.Mids + g.Outs by omega), Bool.and_false]; rfl
  by_cases q5 : w.To ≤ w.From
  · rw [if_neg q1, if_neg q2, if_neg q3, if_neg q4, if_pos q5, decide_eq_false (show ¬ w.From < w.To by omega), Bool.and_false]; rfl
  rw [if_neg q1, if_neg q2, if_neg q3, if_neg q4, if_neg q5, decide_eq_true (show 0 ≤ w.From by omega), decide_eq_true (show w.From < g.Ins + g.Mids by omega), decide_eq_true (show g.Ins ≤ w.To by omega), decide_eq_true (show w.To < g.Ins + g.Mids + g.Outs by omega), decide_eq_true (show w.From < w.To by omega)]
  cases isR w.W <;> cases decide (w.From ∈ g.Gone) <;> cases decide (w.To ∈ g.Gone) <;> rfl
theorem fits_edge {g : Graph} {i : Nat} (hi : i < g.Edges.length) : g.fits i = (g.edgeFits (nth g.Edges i) && (decide (i = 0) || decide (edgeLt (nth g.Edges (i - 1)) (nth g.Edges i)))) := by
  have hf : g.fits i = (decide (g.pairFits i) && isR (nth g.Edges i).W && !decide ((nth g.Edges i).From ∈ g.Gone) && !decide ((nth g.Edges i).To ∈ g.Gone)) := by
    have : g.shape.fits i = decide (g.pairFits i) := by rw [Bool.eq_iff_iff, decide_eq_true_eq]; exact shape_fits hi
    simp only [Graph.fits, this]
  rw [hf, Bool.eq_iff_iff]
  simp only [Graph.edgeFits, Bool.and_eq_true, Bool.or_eq_true, decide_eq_true_eq]
  unfold Graph.pairFits edgeLt
  constructor
  · rintro ⟨⟨⟨⟨a, b, c, d, e, f⟩, r⟩, s⟩, t⟩; exact ⟨⟨⟨⟨⟨⟨⟨⟨a, b⟩, c⟩, d⟩, e⟩, r⟩, s⟩, t⟩, f⟩
  · rintro ⟨⟨⟨⟨⟨⟨⟨⟨a, b⟩, c⟩, d⟩, e⟩, r⟩, s⟩, t⟩, f⟩; exact ⟨⟨⟨⟨a, b, c, d, e, f⟩, r⟩, s⟩, t⟩
theorem ref17_R1 {g : Graph} (h : g.shape.sized = true) (hl : g.Gone.length ≤ 100000) : ref17_Right_l g 0 = some (if g.goneOk = true then .inr () else .inl ()) := by
  unfold ref17_Right_l Graph.goneOk
  refine loop_all (round := fun σ => ref17_Right_l_rd g σ) g.goneFits g.Gone.length (.inr ()) (.inl ()) (fun i hi hp => ?_) (fun i hi hp => ?_) (by simp only [ref17_Right_l_rd, Int.lt_irrefl, decide_false, cond_false]) (by simp only [FU]; omega)
  · simp only [Graph.goneFits, Bool.and_eq_true, Bool.or_eq_true, decide_eq_true_eq] at hp
    have hm : g.shape.isMid (nth g.Gone i) = true := by show (decide _ && decide _) = true; rw [Bool.and_eq_true, decide_eq_true_eq, decide_eq_true_eq]; exact hp.1
    have e1 : (((i : Nat) : Int) - 1).toNat = i - 1 := by omega
    by_cases h0 : i = 0
    · have n6 : ¬ ((i : Nat) : Int) > 0 := by omega
      simp (disch := omega) only [ref17_Right_l_rd, ref17_Mid_eq h, hm, Bool.not_true, cond_false, Bool.cond_decide, if_t, if_neg n6, inK_i64, cond_true, Option.bind_some]
    · have n6 : ((i : Nat) : Int) > 0 := by omega
      have n7 : ¬ (nth g.Gone (i - 1) ≥ nth g.Gone i) := by omega
      simp (disch := omega) only [ref17_Right_l_rd, ref17_Mid_eq h, hm, e1, Bool.not_true, cond_false, Bool.cond_decide, if_t, if_pos n6, if_neg n7, inK_i64, cond_true, Option.bind_some]
  · have e1 : (((i : Nat) : Int) - 1).toNat = i - 1 := by omega
    have hmm : g.shape.isMid (nth g.Gone i) = (decide (g.Ins ≤ nth g.Gone i) && decide (nth g.Gone i < g.Ins + g.Mids)) := rfl
    cases hm : g.shape.isMid (nth g.Gone i) with
    | false => simp (disch := omega) only [ref17_Right_l_rd, ref17_Mid_eq h, hm, Bool.not_false, Bool.cond_decide, if_t, cond_true, Option.bind_some]
    | true =>
      unfold Graph.goneFits at hp
      rw [← hmm, hm, Bool.true_and, Bool.or_eq_false_iff, decide_eq_false_iff_not, decide_eq_false_iff_not] at hp
      have n6 : ((i : Nat) : Int) > 0 := by omega
      have n7 : nth g.Gone (i - 1) ≥ nth g.Gone i := by omega
      simp (disch := omega) only [ref17_Right_l_rd, ref17_Mid_eq h, hm, e1, Bool.not_true, cond_false, Bool.cond_decide, if_t, if_pos n6, if_pos n7, inK_i64, cond_true, Option.bind_some]
theorem ref17_R2 {g : Graph} {n : Nat} (h : g.shape.sized = true) (hg : g.Ok n) (hn0 : 0 < n) (hn : n ≤ 3000) : ref17_Right_l_2 g 0 = some (if (List.range g.Edges.length).all g.fits = true then .inr () else .inl ()) := by
  have hl := hg.e
  unfold ref17_Right_l_2
  refine loop_all (round := fun σ => ref17_Right_l_2_rd g σ) g.fits g.Edges.length (.inr ()) (.inl ()) (fun i hi hp => ?_) (fun i hi hp => ?_) (by simp only [ref17_Right_l_2_rd, Int.lt_irrefl, decide_false, cond_false]) (by simp only [FU]; omega)
  · have he := ref17_edge_eq h (by have := hg.g; omega) (hg.w i hi) hn0 hn
    rw [fits_edge hi, Bool.and_eq_true, Bool.or_eq_true, decide_eq_true_eq, decide_eq_true_eq] at hp
    rw [hp.1] at he
    have e1 : (((i : Nat) : Int) - 1).toNat = i - 1 := by omega
    by_cases h0 : i = 0
    · have n6 : ¬ ((i : Nat) : Int) > 0 := by omega
      simp (disch := omega) only [ref17_Right_l_2_rd, he, Bool.not_true, cond_false, Bool.cond_decide, if_t, if_neg n6, inK_i64, cond_true, Option.bind_some]
    · have n6 : ((i : Nat) : Int) > 0 := by omega
      have hlt := hp.2.resolve_left h0
      unfold edgeLt at hlt
      have n7 : ¬ ((nth g.Edges (i - 1)).From > (nth g.Edges i).From) := by omega
      by_cases q : (nth g.Edges (i - 1)).From = (nth g.Edges i).From
      · have q' : ((nth g.Edges (i - 1)).From == (nth g.Edges i).From) = true := by rw [beq_iff_eq]; exact q
        have n8 : ¬ ((nth g.Edges (i - 1)).To ≥ (nth g.Edges i).To) := by omega
        simp (disch := omega) only [ref17_Right_l_2_rd, he, e1, q', Bool.not_true, cond_false, Bool.cond_decide, if_t, if_pos n6, if_neg n7, if_neg n8, inK_i64, cond_true, Option.bind_some]
      · have q' : ((nth g.Edges (i - 1)).From == (nth g.Edges i).From) = false := by rw [beq_eq_false_iff_ne]; exact q
        simp (disch := omega) only [ref17_Right_l_2_rd, he, e1, q', Bool.not_true, cond_false, Bool.cond_decide, if_t, if_pos n6, if_neg n7, inK_i64, cond_true, Option.bind_some]
  · have he := ref17_edge_eq h (by have := hg.g; omega) (hg.w i hi) hn0 hn
    rw [fits_edge hi] at hp
    cases hf : g.edgeFits (nth g.Edges i) with
    | false =>
      rw [hf] at he
      simp (disch := omega) only [ref17_Right_l_2_rd, he, Bool.not_false, Bool.cond_decide, if_t, cond_true, Option.bind_some]
    | true =>
      rw [hf] at he
      rw [hf, Bool.true_and, Bool.or_eq_false_iff, decide_eq_false_iff_not, decide_eq_false_iff_not] at hp
      have e1 : (((i : Nat) : Int) - 1).toNat = i - 1 := by omega
      have n6 : ((i : Nat) : Int) > 0 := by omega
      have hlt := hp.2
      unfold edgeLt at hlt
      by_cases q0 : (nth g.Edges (i - 1)).From > (nth g.Edges i).From
      · simp (disch := omega) only [ref17_Right_l_2_rd, he, e1, Bool.not_true, cond_false, Bool.cond_decide, if_t, if_pos n6, if_pos q0, inK_i64, cond_true, Option.bind_some]
      · have q : (nth g.Edges (i - 1)).From = (nth g.Edges i).From := by omega
        have q' : ((nth g.Edges (i - 1)).From == (nth g.Edges i).From) = true := by rw [beq_iff_eq]; exact q
        have n8 : (nth g.Edges (i - 1)).To ≥ (nth g.Edges i).To := by omega
        simp (disch := omega) only [ref17_Right_l_2_rd, he, e1, q', Bool.not_true, cond_false, Bool.cond_decide, if_t, if_pos n6, if_neg q0, if_pos n8, inK_i64, cond_true, Option.bind_some]
theorem ref17_Right_eq {g : Graph} {n : Nat} (hg : g.Ok n) (hn0 : 0 < n) (hn : n ≤ 3000) : ref17_Right g = some g.right := by
  have hz : g.shape.sized = (decide (1 ≤ g.Ins) && decide (g.Ins ≤ 40) && decide (1 ≤ g.Outs) && decide (g.Outs ≤ 40) && decide (0 ≤ g.Mids) && decide (g.Mids ≤ 400)) := rfl
  have hno : ∀ {p : Prop}, g.shape.sized = false → g.right = false := fun h => by unfold Graph.right; rw [h]; rfl
  unfold ref17_Right
  by_cases q1 : g.Ins < 1
  · rw [decide_eq_true q1, cond_true, hno (p := True) (by rw [hz, decide_eq_false (show ¬ 1 ≤ g.Ins by omega)]; rfl)]
  by_cases q2 : g.Ins > 40
  · rw [decide_eq_false q1, cond_false, decide_eq_true q2, cond_true, hno (p := True) (by rw [hz, decide_eq_false (show ¬ g.Ins ≤ 40 by omega), Bool.and_false]; rfl)]
  by_cases q3 : g.Outs < 1
  · rw [decide_eq_false q1, cond_false, decide_eq_false q2, cond_false, decide_eq_true q3, cond_true, hno (p := True) (by rw [hz, decide_eq_false (show ¬ 1 ≤ g.Outs by omega), Bool.and_false]; rfl)]
  by_cases q4 : g.Outs > 40
  · rw [decide_eq_false q1, cond_false, decide_eq_false q2, cond_false, decide_eq_false q3, cond_false, decide_eq_true q4, cond_true, hno (p := True) (by rw [hz, decide_eq_false (show ¬ g.Outs ≤ 40 by omega), Bool.and_false]; rfl)]
  by_cases q5 : g.Mids < 0
  · rw [decide_eq_false q1, cond_false, decide_eq_false q2, cond_false, decide_eq_false q3, cond_false, decide_eq_false q4, cond_false, decide_eq_true q5, cond_true, hno (p := True) (by rw [hz, decide_eq_false (show ¬ 0 ≤ g.Mids by omega), Bool.and_false]; rfl)]
  by_cases q6 : g.Mids > 400
  · rw [decide_eq_false q1, cond_false, decide_eq_false q2, cond_false, decide_eq_false q3, cond_false, decide_eq_false q4, cond_false, decide_eq_false q5, cond_false, decide_eq_true q6, cond_true, hno (p := True) (by rw [hz, decide_eq_false (show ¬ g.Mids ≤ 400 by omega), Bool.and_false])]
  have hs : g.shape.sized = true := sized_iff.2 (by simp only [Graph.shape]; omega)
  rw [decide_eq_false q1, cond_false, decide_eq_false q2, cond_false, decide_eq_false q3, cond_false, decide_eq_false q4, cond_false, decide_eq_false q5, cond_false, decide_eq_false q6, cond_false]
  simp only [ref17_R1 hs hg.g, ref17_R2 hs hg hn0 hn, Option.bind_some, Graph.right, hs, Bool.true_and]
  cases hq : g.goneOk with
  | false => rfl
  | true =>
    cases hp : (List.range g.Edges.length).all g.fits with
    | false => rfl
    | true => rfl

theorem ref17_In_eq {g : Graph} (hl : g.Edges.length ≤ 100000) (v : Int) : ref17_In g v = some (g.ins v) := by
  have run : ref17_In_l g v [] 0 = some (g.Edges.filter fun w => w.To == v) := by
    have := loop_run (round := fun σ : List Edge × Nat => ref17_In_l_rd g v σ.1 σ.2) (fun i => ((g.Edges.take i).filter (fun w => w.To == v), i)) g.Edges.length (r := (g.Edges.take g.Edges.length).filter (fun w => w.To == v)) (fun i hi => ?_) ?_ (by simp only [FU]; omega)
    · rw [List.take_length] at this; exact this
    · have hq := filt_len (l := g.Edges) (fun w : Edge => w.To == v) i
      show ref17_In_l_rd g v ((g.Edges.take i).filter (fun w => w.To == v)) i = some (.inl ((g.Edges.take (i + 1)).filter (fun w => w.To == v), i + 1))
      rw [filter_step hi]
      rcases Bool.eq_false_or_eq_true ((nth g.Edges i).To == v) with q | q
      · simp (disch := omega) only [ref17_In_l_rd, q, Option.bind_some, Bool.cond_decide, if_t, inK_i64, cond_true, if_true]
      · simp (disch := omega) only [ref17_In_l_rd, q, Option.bind_some, Bool.cond_decide, if_t, inK_i64, cond_true, cond_false, Bool.false_eq_true, if_false]
    · simp only [ref17_In_l_rd, Int.lt_irrefl, decide_false, cond_false]
  simp only [ref17_In, run, Option.bind_some, Graph.ins]
theorem ref17_Out_eq {g : Graph} (hl : g.Edges.length ≤ 100000) (v : Int) : ref17_Out g v = some (g.outs v) := by
  have run : ref17_Out_l g v [] 0 = some (g.Edges.filter fun w => w.From == v) := by
    have := loop_run (round := fun σ : List Edge × Nat => ref17_Out_l_rd g v σ.1 σ.2) (fun i => ((g.Edges.take i).filter (fun w => w.From == v), i)) g.Edges.length (r := (g.Edges.take g.Edges.length).filter (fun w => w.From == v)) (fun i hi => ?_) ?_ (by simp only [FU]; omega)
    · rw [List.take_length] at this; exact this
    · have hq := filt_len (l := g.Edges) (fun w : Edge => w.From == v) i
      show ref17_Out_l_rd g v ((g.Edges.take i).filter (fun w => w.From == v)) i = some (.inl ((g.Edges.take (i + 1)).filter (fun w => w.From == v), i + 1))
      rw [filter_step hi]
      rcases Bool.eq_false_or_eq_true ((nth g.Edges i).From == v) with q | q
      · simp (disch := omega) only [ref17_Out_l_rd, q, Option.bind_some, Bool.cond_decide, if_t, inK_i64, cond_true, if_true]
      · simp (disch := omega) only [ref17_Out_l_rd, q, Option.bind_some, Bool.cond_decide, if_t, inK_i64, cond_true, cond_false, Bool.false_eq_true, if_false]
    · simp only [ref17_Out_l_rd, Int.lt_irrefl, decide_false, cond_false]
  simp only [ref17_Out, run, Option.bind_some, Graph.outs]
theorem ins_pe {g : Graph} {I M O : Nat} (h : RGr g I M O) (v : Nat) : (g.ins (v : Int)).map Edge.pe = g.E.filter fun e => decide (e.t = v) := by
  unfold Graph.ins Graph.E
  rw [List.filter_map]
  congr 1
  refine List.filter_congr fun w hw => ?_
  have := h.e w hw
  show (w.To == (v : Int)) = decide (w.To.toNat = v)
  rw [Bool.eq_iff_iff, beq_iff_eq, decide_eq_true_eq]
  omega
theorem outs_pe {g : Graph} {I M O : Nat} (h : RGr g I M O) (v : Nat) : (g.outs (v : Int)).map Edge.pe = g.E.filter fun e => decide (e.f = v) := by
  unfold Graph.outs Graph.E
  rw [List.filter_map]
  congr 1
  refine List.filter_congr fun w hw => ?_
  have := h.e w hw
  show (w.From == (v : Int)) = decide (w.From.toNat = v)
  rw [Bool.eq_iff_iff, beq_iff_eq, decide_eq_true_eq]
  omega

/-! ### reaching -/
theorem any_range {α : Type} [Inhabited α] (l : List α) (p : α → Bool) : (List.range l.length).all (fun i => !p (nth l i)) = !l.any p := by
  rw [Bool.eq_iff_iff, List.all_eq_true, Bool.not_eq_true']
  constructor
  · intro h
    rw [List.any_eq_false]
    intro x hx
    obtain ⟨i, hi, rfl⟩ := mem_nth hx
    have := h i (by simpa using hi)
    simpa using this
  · intro h i hi
    rw [List.any_eq_false] at h
    have := h _ (nth_mem (by simpa using hi))
    simpa using this
theorem Reaches_lt {g : Graph} {F : Graph → Int → Bool → Option Bool} {l : List Edge} (hl : l.length ≤ 100000) (p : Edge → Bool) (hF : ∀ i, i < l.length → F g (nth l i).From true = some (p (nth l i))) :
    ref17_Reaches_l g true F l 0 = some (if l.any p = true then .inl () else .inr ()) := by
  have := loop_all (round := fun σ => ref17_Reaches_l_rd g true F l σ) (fun i => !p (nth l i)) l.length (.inr ()) (.inl ())
    (fun i hi hp => by
      have e := hF i hi
      simp only [Bool.not_eq_true'] at hp
      rw [hp] at e
      simp (disch := omega) only [ref17_Reaches_l_rd, e, Option.bind_some, Bool.cond_decide, if_t, inK_i64, cond_true, cond_false])
    (fun i hi hp => by
      have e := hF i hi
      simp only [Bool.not_eq_false'] at hp
      rw [hp] at e
      simp (disch := omega) only [ref17_Reaches_l_rd, e, Option.bind_some, Bool.cond_decide, if_t, inK_i64, cond_true, cond_false])
    (by simp only [ref17_Reaches_l_rd, Int.lt_irrefl, decide_false, cond_false]) (by simp only [FU]; omega)
  unfold ref17_Reaches_l
  rw [this, any_range]
  cases l.any p <;> rfl
theorem Reaches_l2 {g : Graph} {F : Graph → Int → Bool → Option Bool} {l : List Edge} (hl : l.length ≤ 100000) (p : Edge → Bool) (hF : ∀ i, i < l.length → F g (nth l i).To false = some (p (nth l i))) :
    ref17_Reaches_l_2 g false F l 0 = some (if l.any p = true then .inl () else .inr ()) := by
  have := loop_all (round := fun σ => ref17_Reaches_l_2_rd g false F l σ) (fun i => !p (nth l i)) l.length (.inr ()) (.inl ())
    (fun i hi hp => by
      have e := hF i hi
      simp only [Bool.not_eq_true'] at hp
      rw [hp] at e
      simp (disch := omega) only [ref17_Reaches_l_2_rd, e, Option.bind_some, Bool.cond_decide, if_t, inK_i64, cond_true, cond_false])
    (fun i hi hp => by
      have e := hF i hi
      simp only [Bool.not_eq_false'] at hp
      rw [hp] at e
      simp (disch := omega) only [ref17_Reaches_l_2_rd, e, Option.bind_some, Bool.cond_decide, if_t, inK_i64, cond_true, cond_false])
    (by simp only [ref17_Reaches_l_2_rd, Int.lt_irrefl, decide_false, cond_false]) (by simp only [FU]; omega)
  unfold ref17_Reaches_l_2
  rw [this, any_range]
  cases l.any p <;> rfl
theorem any_pe (l : List Edge) (q : PE → Bool) : (l.any fun w => q w.pe) = (l.map Edge.pe).any q := by rw [List.any_map]; rfl
theorem fr_last {g : Graph} {I M O : Nat} (h : RGr g I M O) (v : Nat) : fr I g.E v = (decide (v < I) || (g.ins (v : Int)).any fun w => fr I g.E w.From.toNat) := by
  have := foldF_last (l := g.E) (sIn I) v g.E [] (List.append_nil _) h.fwd
  unfold fr
  rw [this, ← ins_pe h, ← any_pe]
  rfl
theorem to_first {g : Graph} {I M O : Nat} (h : RGr g I M O) (v : Nat) : to_ (I + M) g.E v = (decide (I + M ≤ v) || (g.outs (v : Int)).any fun w => to_ (I + M) g.E w.To.toNat) := by
  have := bkB_first (l := g.E) (sOut (I + M)) v (r := g.E) (p := []) rfl h.fwd
  unfold to_
  rw [this, ← outs_pe h, ← any_pe]
  rfl
theorem gmem_ins {g : Graph} {v : Int} {w : Edge} (h : w ∈ g.ins v) : w ∈ g.Edges ∧ w.To = v := by
  unfold Graph.ins at h
  rw [List.mem_filter, beq_iff_eq] at h
  exact h
theorem gmem_outs {g : Graph} {v : Int} {w : Edge} (h : w ∈ g.outs v) : w ∈ g.Edges ∧ w.From = v := by
  unfold Graph.outs at h
  rw [List.mem_filter, beq_iff_eq] at h
  exact h
theorem ins_len (g : Graph) (v : Int) : (g.ins v).length ≤ g.Edges.length := List.length_filter_le _ _
theorem outs_len (g : Graph) (v : Int) : (g.outs v).length ≤ g.Edges.length := List.length_filter_le _ _
theorem Reaches_back {g : Graph} {I M O : Nat} (h : RGr g I M O) (hl : g.Edges.length ≤ 100000) : ∀ (n v : Nat), v < n → ref17_Reaches_n n g (v : Int) true = some (fr I g.E v)
  | 0, v, hv => by omega
  | n + 1, v, hv => by
    show ref17_Reaches_st (ref17_Reaches_n n) g (v : Int) true = _
    rw [fr_last h]
    by_cases q : v < I
    · have q1 : (v : Int) < (I : Int) := by omega
      simp only [ref17_Reaches_st, cond_true, h.i, decide_eq_true q, decide_eq_true q1, Bool.true_or]
    · have q1 : ¬ (v : Int) < (I : Int) := by omega
      have e := Reaches_lt (g := g) (F := ref17_Reaches_n n) (l := g.ins (v : Int)) (Nat.le_trans (ins_len _ _) hl) (fun w => fr I g.E w.From.toNat) fun i hi => by
        have hw := gmem_ins (nth_mem hi)
        have := h.e _ hw.1
        have ih := Reaches_back h hl n (nth (g.ins (v : Int)) i).From.toNat (by omega)
        rw [Int.toNat_of_nonneg this.1] at ih
        exact ih
      simp only [ref17_Reaches_st, cond_true, h.i, decide_eq_false q, decide_eq_false q1, cond_false, Bool.not_true, ref17_Out_eq hl, ref17_In_eq hl, Option.bind_some, e, Bool.false_or]
      cases (g.ins (v : Int)).any fun w => fr I g.E w.From.toNat <;> rfl
theorem Reaches_on {g : Graph} {I M O : Nat} (h : RGr g I M O) (hl : g.Edges.length ≤ 100000) : ∀ (n v : Nat), I + M + O < n + v → v < I + M + O → ref17_Reaches_n n g (v : Int) false = some (to_ (I + M) g.E v)
  | 0, v, hv, hv2 => by omega
  | n + 1, v, hv, hv2 => by
    have i2 := h.i2; have m2 := h.m2; have o2 := h.o2
    show ref17_Reaches_st (ref17_Reaches_n n) g (v : Int) false = _
    rw [to_first h]
    have hin : inK .i64 ((I : Int) + (M : Int)) = true := inK_i64 (by omega) (by omega)
    by_cases q : I + M ≤ v
    · have q1 : (v : Int) ≥ (I : Int) + (M : Int) := by omega
      simp only [ref17_Reaches_st, cond_true, cond_false, Bool.not_false, h.i, h.m, hin, decide_eq_true q, decide_eq_true q1, Bool.true_or]
    · have q1 : ¬ (v : Int) ≥ (I : Int) + (M : Int) := by omega
      have e := Reaches_l2 (g := g) (F := ref17_Reaches_n n) (l := g.outs (v : Int)) (Nat.le_trans (outs_len _ _) hl) (fun w => to_ (I + M) g.E w.To.toNat) fun i hi => by
        have hw := gmem_outs (nth_mem hi)
        have := h.e _ hw.1
        have ih := Reaches_on h hl n (nth (g.outs (v : Int)) i).To.toNat (by omega) (by omega)
        rw [Int.toNat_of_nonneg (by omega)] at ih
        exact ih
      simp only [ref17_Reaches_st, cond_true, cond_false, Bool.not_false, h.i, h.m, hin, decide_eq_false q, decide_eq_false q1, ref17_Out_eq hl, Option.bind_some, e, Bool.false_or]
      cases (g.outs (v : Int)).any fun w => to_ (I + M) g.E w.To.toNat <;> rfl
theorem ref17_Reaches_back {g : Graph} {I M O : Nat} (h : RGr g I M O) (hl : g.Edges.length ≤ 100000) {v : Nat} (hv : v < I + M + O) : ref17_Reaches g (v : Int) true = some (fr I g.E v) :=
  Reaches_back h hl FU v (by have i2 := h.i2; have m2 := h.m2; have o2 := h.o2; simp only [FU]; omega)
theorem ref17_Reaches_on {g : Graph} {I M O : Nat} (h : RGr g I M O) (hl : g.Edges.length ≤ 100000) {v : Nat} (hv : v < I + M + O) : ref17_Reaches g (v : Int) false = some (to_ (I + M) g.E v) :=
  Reaches_on h hl FU v (by have i2 := h.i2; have m2 := h.m2; have o2 := h.o2; simp only [FU]; omega) hv
/-- WHAT IS PRUNED, BY THE DOCUMENT -/
def Graph.prune (g : Graph) (I M : Nat) : Graph := ⟨g.Ins, g.Mids, g.Outs, g.Edges.filter (keepB I M g.E), g.Gone⟩
theorem ref17_Prune_eq {g : Graph} {I M O : Nat} (h : RGr g I M O) (hl : g.Edges.length ≤ 100000) : ref17_Prune g = some (g.prune I M) := by
  have run : ref17_Prune_l g 0 [] = some (g.Edges.filter (keepB I M g.E)) := by
    have := loop_run (round := fun σ : Nat × List Edge => ref17_Prune_l_rd g σ.1 σ.2) (fun i => (i, (g.Edges.take i).filter (keepB I M g.E))) g.Edges.length (r := (g.Edges.take g.Edges.length).filter (keepB I M g.E)) (fun i hi => ?_) ?_ (by simp only [FU]; omega)
    · rw [List.take_length] at this; exact this
    · have hq := filt_len (l := g.Edges) (keepB I M g.E) i
      show ref17_Prune_l_rd g i ((g.Edges.take i).filter (keepB I M g.E)) = some (.inl (i + 1, (g.Edges.take (i + 1)).filter (keepB I M g.E)))
      rw [filter_step hi]
      have hw := h.e _ (nth_mem hi)
      have r1 := ref17_Reaches_back h hl (v := (nth g.Edges i).From.toNat) (by omega)
      have r2 := ref17_Reaches_on h hl (v := (nth g.Edges i).To.toNat) (by omega)
      rw [Int.toNat_of_nonneg (by omega)] at r1 r2
      have hk : keepB I M g.E (nth g.Edges i) = (fr I g.E (nth g.Edges i).From.toNat && to_ (I + M) g.E (nth g.Edges i).To.toNat) := rfl
      rw [hk]
      clear hk
      generalize fr I g.E (nth g.Edges i).From.toNat = a at *
      generalize to_ (I + M) g.E (nth g.Edges i).To.toNat = b at *
      cases a <;> cases b <;> simp (disch := omega) only [ref17_Prune_l_rd, r1, r2, Option.bind_some, Bool.cond_decide, if_t, inK_i64, cond_true, cond_false, Bool.and_true, Bool.and_false, Bool.false_and, Bool.true_and, Bool.false_eq_true, if_false, if_true]
    · simp only [ref17_Prune_l_rd, Int.lt_irrefl, decide_false, cond_false]
  simp only [ref17_Prune, run, Option.bind_some, Graph.prune]
end Go.Ab.M
end

section
/-
  PLAIN LAW: SUMS OVER WAYS, AND WHETHER ALL HAVE ONE EDGE, AS THE DOCUMENT TELLS; graphs that are one.
  Conditions: none.
-/
namespace Go.Ab.M
open Go.Proofs
set_option linter.unusedVariables false
set_option linter.unusedSimpArgs false

/-- part of a sum over first edges, where what follows is told by the edges behind -/
theorem part_sz2 {n : Nat} {l : List PE} (hl : Lab n l) (φ : Nat → _root_.Rat) (hφ : ∀ p e r, l = p ++ e :: r → SZ (DD r) (MM r) (φ e.t)) : ∀ {m : List PE}, (∀ e, e ∈ m → e ∈ l) → SZ (DD l) (m.length * MM l) (sumQ (m.map fun e => e.w * φ e.t))
  | [], _ => .zero _ _
  | e :: m, h => by
    have ih := part_sz2 hl φ hφ (m := m) fun x hx => h x (by simp [hx])
    obtain ⟨p, r, rfl⟩ := List.append_of_mem (h e (by simp))
    have h1 : SZ (e.w.den * DD r) (e.w.num.natAbs * MM r) (e.w * φ e.t) := (SZ.self e.w).mul e.w.den_nz (DD_pos r) (hφ p e r rfl)
    have h2 := h1.up (DD_pos p)
    rw [show e.w.den * DD r * DD p = DD (p ++ e :: r) by rw [DD_app]; show _ = DD p * (e.w.den * DD r); rw [Nat.mul_comm]] at h2
    have h3 : e.w.num.natAbs * MM r * DD p ≤ MM (p ++ e :: r) := by
      rw [MM_app, Nat.mul_comm]
      exact Nat.mul_le_mul (DD_le p) (Nat.mul_le_mul_right _ (Nat.le_add_left _ _))
    rw [List.map_cons, sumQ_cons, List.length_cons, Nat.succ_mul, Nat.add_comm]
    exact (h2.mono h3).add (DD_pos _) ih
theorem SZ.word {n : Nat} {l : List PE} (hl : Lab n l) {k : Nat} (hk : k ≤ 1000) {q : _root_.Rat} (h : SZ (DD l) (k * MM l) q) : szQ ((n + 1) * l.length + 1) q := by
  have hM := MM_lt hl
  have hD := DD_le l
  have h3 : (4294967296 : Nat) ^ ((n + 1) * l.length + 1) = 4294967296 ^ ((n + 1) * l.length) * 4294967296 := Nat.pow_succ ..
  have h4 : 0 < (4294967296 : Nat) ^ ((n + 1) * l.length) := Nat.pow_pos (by decide)
  have h5 : k * MM l ≤ 1000 * 4294967296 ^ ((n + 1) * l.length) := Nat.mul_le_mul hk hM
  refine h.sz ?_ ?_ (by omega)
  · rw [h3]
    generalize (4294967296 : Nat) ^ ((n + 1) * l.length) = W at *
    omega
  · rw [h3]
    generalize (4294967296 : Nat) ^ ((n + 1) * l.length) = W at *
    omega
theorem bk_phi {l : List PE} (hf : Fwd l) (to : Nat) : ∀ p e r, l = p ++ e :: r → SZ (DD r) (MM r) (bk to l e.t) := fun p e r hl => by
  rw [hl, bk_behind (by rw [← hl]; exact hf)]
  exact bk_size to r e.t
theorem one_phi {l : List PE} (to : Nat) : ∀ p e r, l = p ++ e :: r → SZ (DD r) (MM r) (if e.t = to then (1 : _root_.Rat) else 0) := fun p e r hl => by
  split
  · have := SZ.one.up (DD_pos r)
    rw [Nat.one_mul] at this
    exact this.mono (DD_le r)
  · exact .zero _ _
/-- the loop over a vertex's edges -/
theorem sum_l {g : Graph} {I M O n : Nat} (h : RGr g I M O) (hg : g.Ok n) (hn0 : 0 < n) (hl : g.Edges.length ≤ 400) (hK : (n + 1) * g.Edges.length + 1 ≤ 1400) (φ : Nat → _root_.Rat) (hφ : ∀ p e r, g.E = p ++ e :: r → SZ (DD r) (MM r) (φ e.t))
    (F : Graph → Int → Int → Int → Option Rat) (to most : Int) (hm : 1 ≤ most) (hm2 : most ≤ 1000) (v : Nat) (hF : ∀ w, w ∈ g.outs (v : Int) → F g w.To to (most - 1) = some (ofR (φ w.To.toNat))) :
    ref17_sum_l g to most F (g.outs (v : Int)) 0 (ofR 0).Neg (ofR 0).Num (ofR 0).Den = some ((ofR (sumQ ((g.E.filter fun e => decide (e.f = v)).map fun e => e.w * φ e.t))).Neg, (ofR (sumQ ((g.E.filter fun e => decide (e.f = v)).map fun e => e.w * φ e.t))).Num, (ofR (sumQ ((g.E.filter fun e => decide (e.f = v)).map fun e => e.w * φ e.t))).Den) := by
  have hlab := h.lab hg hn0
  have hlen := outs_len g (v : Int)
  rw [← outs_pe h]
  have eta : ∀ q : _root_.Rat, Rat.mk (ofR q).Neg (ofR q).Num (ofR q).Den = ofR q := fun q => rfl
  have hsz : ∀ i, i ≤ (g.outs (v : Int)).length → szQ ((n + 1) * g.Edges.length + 1) (sumQ ((((g.outs (v : Int)).take i).map Edge.pe).map fun e => e.w * φ e.t)) := fun i hi => by
    have := (part_sz2 hlab φ hφ (m := ((g.outs (v : Int)).take i).map Edge.pe) fun e he => by
      obtain ⟨w, hw, rfl⟩ := List.mem_map.1 he
      exact List.mem_map_of_mem (gmem_outs (List.mem_of_mem_take hw)).1).word hlab (by rw [List.length_map, List.length_take]; omega)
    rw [E_len] at this
    exact this
  have := loop_run (round := fun σ : Nat × Bool × List Int × List Int => ref17_sum_l_rd g to most F (g.outs (v : Int)) σ.1 σ.2.1 σ.2.2.1 σ.2.2.2)
    (fun i => (i, (ofR (sumQ ((((g.outs (v : Int)).take i).map Edge.pe).map fun e => e.w * φ e.t))).Neg, (ofR (sumQ ((((g.outs (v : Int)).take i).map Edge.pe).map fun e => e.w * φ e.t))).Num, (ofR (sumQ ((((g.outs (v : Int)).take i).map Edge.pe).map fun e => e.w * φ e.t))).Den)) (g.outs (v : Int)).length
    (r := ((ofR (sumQ ((((g.outs (v : Int)).take (g.outs (v : Int)).length).map Edge.pe).map fun e => e.w * φ e.t))).Neg, (ofR (sumQ ((((g.outs (v : Int)).take (g.outs (v : Int)).length).map Edge.pe).map fun e => e.w * φ e.t))).Num, (ofR (sumQ ((((g.outs (v : Int)).take (g.outs (v : Int)).length).map Edge.pe).map fun e => e.w * φ e.t))).Den)) (fun i hi => ?_) ?_ (by simp only [FU]; omega)
  · rw [List.take_length] at this
    exact this
  · have hw := gmem_outs (nth_mem hi)
    have f := hF _ (nth_mem hi)
    obtain ⟨j, hj, ej⟩ := mem_nth hw.1
    have ok1 : okL n (nth (g.outs (v : Int)) i).W := by rw [← ej]; exact hg.w j hj
    have hnK : n ≤ (n + 1) * g.Edges.length + 1 := by
      have : (n + 1) * 1 ≤ (n + 1) * g.Edges.length := Nat.mul_le_mul_left _ (by omega)
      omega
    have s1 := hsz i (by omega)
    have s2 := hsz (i + 1) (by omega)
    have eN : sumQ ((((g.outs (v : Int)).take (i + 1)).map Edge.pe).map fun e => e.w * φ e.t) = sumQ ((((g.outs (v : Int)).take i).map Edge.pe).map fun e => e.w * φ e.t) + qR (nth (g.outs (v : Int)) i).W * φ (nth (g.outs (v : Int)) i).To.toNat := by
      rw [take_nth hi, List.map_append, List.map_append, sumQ_append]
      show _ + (qR (nth (g.outs (v : Int)) i).W * φ (nth (g.outs (v : Int)) i).To.toNat + (0 : _root_.Rat)) = _
      grind
    have pieces := hφ
    have hmemE : (nth (g.outs (v : Int)) i).pe ∈ g.E := List.mem_map_of_mem hw.1
    have s3 : szQ ((n + 1) * g.Edges.length + 1) (φ (nth (g.outs (v : Int)) i).To.toNat) := by
      obtain ⟨p, r, hpr⟩ := List.append_of_mem hmemE
      have hr : Lab n r := fun e he => hlab e (by rw [hpr]; simp [he])
      have a := (hφ p _ r hpr)
      have b := (a.mono (show MM r ≤ 1 * MM r by omega)).word hr (by omega)
      refine szQ.mono b ?_
      have : r.length ≤ g.Edges.length := by rw [← E_len g, hpr]; simp; omega
      have := Nat.mul_le_mul_left (n + 1) this
      omega
    have s4 : szQ ((n + 1) * g.Edges.length + 1) (qR (nth (g.outs (v : Int)) i).W * φ (nth (g.outs (v : Int)) i).To.toNat) := by
      have := (part_sz2 hlab φ hφ (m := [(nth (g.outs (v : Int)) i).pe]) fun e he => by rw [List.mem_singleton.1 he]; exact hmemE).word hlab (by simp)
      rw [E_len] at this
      have e : sumQ ([(nth (g.outs (v : Int)) i).pe].map fun e => e.w * φ e.t) = qR (nth (g.outs (v : Int)) i).W * φ (nth (g.outs (v : Int)) i).To.toNat := by
        show qR (nth (g.outs (v : Int)) i).W * φ (nth (g.outs (v : Int)) i).To.toNat + (0 : _root_.Rat) = _
        grind
      rw [e] at this
      exact this
    have m := ref08_Mul_eq (ok1.mono hnK) s3.ok (by omega) (by omega)
    rw [qR_ofR] at m
    have a := ref08_Add_eq s1.ok s4.ok (by omega) hK
    rw [qR_ofR, qR_ofR, ← eN] at a
    show ref17_sum_l_rd g to most F (g.outs (v : Int)) i _ _ _ = _
    rw [← eta] at a
    rw [eta] at a
    simp (disch := omega) only [ref17_sum_l_rd, eta, f, m, a, Option.bind_some, Bool.cond_decide, if_t, inK_i64, cond_true]
  · simp only [ref17_sum_l_rd, Int.lt_irrefl, decide_false, cond_false]
theorem no_outs {g : Graph} {I M O : Nat} (h : RGr g I M O) {v : Nat} (hv : I + M ≤ v) : g.E.filter (fun e => decide (e.f = v)) = [] := by
  rw [List.filter_eq_nil_iff]
  intro e he
  have := h.pe e he
  simp only [decide_eq_true_eq]
  omega
theorem sum_full {g : Graph} {I M O n : Nat} (h : RGr g I M O) (hg : g.Ok n) (hn0 : 0 < n) (hl : g.Edges.length ≤ 400) (hK : (n + 1) * g.Edges.length + 1 ≤ 1400) {to : Nat} (ht : I + M ≤ to) : ∀ (k v most : Nat), I + M + O < k + v → I + M + O ≤ most + v → most ≤ 1000 → v < I + M + O →
    ref17_sum_n k g (v : Int) (to : Int) (most : Int) = some (ofR (bk to g.E v))
  | 0, v, most, h1, h2, h3, h4 => by omega
  | k + 1, v, most, h1, h2, h3, h4 => by
    show ref17_sum_st (ref17_sum_n k) g (v : Int) (to : Int) (most : Int) = _
    have o0 : ref08_Of 0 = some (ofR 0) := ref08_Of_eq (z := 0) (by decide) (by decide)
    have o1 : ref08_Of 1 = some (ofR 1) := ref08_Of_eq (z := 1) (by decide) (by decide)
    have hb := bk_first (l := g.E) to v (r := g.E) (p := []) rfl h.fwd
    by_cases q : v = to
    · have q' : ((v : Int) == (to : Int)) = true := by rw [beq_iff_eq]; omega
      have : bk to g.E v = 1 := by
        rw [hb, if_pos q, no_outs h (by omega)]
        show (1 : _root_.Rat) + 0 = 1
        grind
      rw [this]
      simp only [ref17_sum_st, o0, o1, q', cond_true, Option.bind_some]
    · have q' : ((v : Int) == (to : Int)) = false := by rw [beq_eq_false_iff_ne]; omega
      have q2 : ((most : Int) == 0) = false := by rw [beq_eq_false_iff_ne]; omega
      have s := sum_l h hg hn0 hl hK (bk to g.E) (bk_phi h.fwd to) (ref17_sum_n k) (to : Int) (most : Int) (by omega) (by omega) v fun w hw => by
        have hw := gmem_outs hw
        have := h.e w hw.1
        have ih := sum_full h hg hn0 hl hK ht k w.To.toNat (most - 1) (by omega) (by omega) (by omega) (by omega)
        rw [Int.toNat_of_nonneg (by omega), show ((most - 1 : Nat) : Int) = (most : Int) - 1 by omega] at ih
        exact ih
      have e : bk to g.E v = sumQ ((g.E.filter fun e => decide (e.f = v)).map fun e => e.w * bk to g.E e.t) := by
        rw [hb, if_neg q]
        grind
      rw [e]
      simp only [ref17_sum_st, o0, q', q2, cond_false, ref17_Out_eq (show g.Edges.length ≤ 100000 by omega), Option.bind_some, s]
theorem dq_sum (l : List PE) (v to : Nat) : dq l v to = sumQ ((l.filter fun e => decide (e.f = v)).map fun e => e.w * (if e.t = to then 1 else 0)) := by
  unfold dq
  induction l with
  | nil => rfl
  | cons x l ih =>
    rw [List.filter_cons, List.filter_cons]
    unfold onE
    unfold onE at ih
    by_cases a : x.f = v
    · rw [decide_eq_true a, Bool.true_and, if_pos rfl, List.map_cons, sumQ_cons, ← ih]
      by_cases b : x.t = to
      · rw [decide_eq_true b, if_pos rfl, List.map_cons, sumQ_cons, if_pos b]
        grind
      · rw [decide_eq_false b, if_neg (by decide), if_neg b]
        grind
    · rw [decide_eq_false a, Bool.false_and, if_neg (by decide), if_neg (by decide), ← ih]
theorem sum_one {g : Graph} {I M O n : Nat} (h : RGr g I M O) (hg : g.Ok n) (hn0 : 0 < n) (hl : g.Edges.length ≤ 400) (hK : (n + 1) * g.Edges.length + 1 ≤ 1400) {to : Nat} (k : Nat) {v : Nat} (hv : v ≠ to) :
    ref17_sum_n (k + 2) g (v : Int) (to : Int) 1 = some (ofR (dq g.E v to)) := by
  show ref17_sum_st (ref17_sum_n (k + 1)) g (v : Int) (to : Int) 1 = _
  have o0 : ref08_Of 0 = some (ofR 0) := ref08_Of_eq (z := 0) (by decide) (by decide)
  have o1 : ref08_Of 1 = some (ofR 1) := ref08_Of_eq (z := 1) (by decide) (by decide)
  have q' : ((v : Int) == (to : Int)) = false := by rw [beq_eq_false_iff_ne]; omega
  have q2 : ((1 : Int) == 0) = false := by decide
  have s := sum_l h hg hn0 hl hK (fun u => if u = to then 1 else 0) (one_phi to) (ref17_sum_n (k + 1)) (to : Int) 1 (by omega) (by omega) v fun w hw => by
    have hw := gmem_outs hw
    have := h.e w hw.1
    show ref17_sum_st (ref17_sum_n k) g w.To (to : Int) 0 = _
    by_cases p : w.To.toNat = to
    · have p' : (w.To == (to : Int)) = true := by rw [beq_iff_eq]; omega
      simp only [ref17_sum_st, o0, o1, p', cond_true, Option.bind_some, if_pos p]
    · have p' : (w.To == (to : Int)) = false := by rw [beq_eq_false_iff_ne]; omega
      have p2 : ((0 : Int) == 0) = true := by decide
      simp only [ref17_sum_st, o0, p', p2, cond_true, cond_false, Option.bind_some, if_neg p]
  have e := dq_sum g.E v to
  rw [e]
  simp only [ref17_sum_st, o0, q', q2, cond_false, ref17_Out_eq (show g.Edges.length ≤ 100000 by omega), Option.bind_some, s]
/-- sums for all pairs -/
theorem ways_l {g : Graph} {I M O : Nat} (h : RGr g I M O) (most : Int) (F : Nat → Rat) (hF : ∀ r c, r < O → c < I → ref17_sum g (c : Int) ((I : Int) + (M : Int) + (r : Int)) most = some (F (r * I + c))) :
    ref17_ways_l g most 0 [] = some ((List.range (O * I)).map F) := by
  have i2 := h.i2; have m2 := h.m2; have o2 := h.o2; have i1 := h.i1
  have hOI : O * I ≤ 1600 := Nat.mul_le_mul h.o2 h.i2
  have inner : ∀ r, r < O → ref17_ways_l_2 g most r 0 ((List.range (r * I)).map F) = some ((List.range ((r + 1) * I)).map F) := fun r hr => by
    have hlt : r * I + I ≤ O * I := by rw [← Nat.succ_mul]; exact Nat.mul_le_mul_right _ hr
    have := loop_run (round := fun σ : Nat × List Rat => ref17_ways_l_2_rd g most r σ.1 σ.2) (fun c => (c, (List.range (r * I + c)).map F)) I (r := (List.range (r * I + I)).map F) (fun c hc => ?_) ?_ (by simp only [FU]; omega)
    · rw [Nat.succ_mul]; exact this
    · show ref17_ways_l_2_rd g most r c ((List.range (r * I + c)).map F) = some (.inl (c + 1, (List.range (r * I + (c + 1))).map F))
      have e : ((List.range (r * I + c)).map F).length = r * I + c := tab_len
      rw [show r * I + (c + 1) = (r * I + c) + 1 by omega, tab_succ]
      have f := hF r c hr hc
      simp (disch := omega) only [ref17_ways_l_2_rd, h.i, h.m, f, e, Option.bind_some, Bool.cond_decide, if_t, inK_i64, cond_true]
    · simp only [ref17_ways_l_2_rd, h.i, Int.lt_irrefl, decide_false, cond_false]
  have := loop_run (round := fun σ : Nat × List Rat => ref17_ways_l_rd g most σ.1 σ.2) (fun r => (r, (List.range (r * I)).map F)) O (r := (List.range (O * I)).map F) (fun r hr => ?_) ?_ (by simp only [FU]; omega)
  · rw [Nat.zero_mul] at this; exact this
  · show ref17_ways_l_rd g most r ((List.range (r * I)).map F) = some (.inl (r + 1, (List.range ((r + 1) * I)).map F))
    simp (disch := omega) only [ref17_ways_l_rd, h.o, inner r hr, Option.bind_some, Bool.cond_decide, if_t, inK_i64, cond_true]
  · simp only [ref17_ways_l_rd, h.o, Int.lt_irrefl, decide_false, cond_false]
theorem ent_mod {I r c : Nat} (hc : c < I) : (r * I + c) % I = c ∧ (r * I + c) / I = r :=
  ⟨by rw [Nat.add_comm, Nat.add_mul_mod_self_right, Nat.mod_eq_of_lt hc], by rw [Nat.add_comm, Nat.add_mul_div_right _ _ (by omega), Nat.div_eq_of_lt hc, Nat.zero_add]⟩
theorem ref17_Paths_eq {g : Graph} {I M O n : Nat} (h : RGr g I M O) (hg : g.Ok n) (hn0 : 0 < n) (hn : n ≤ 3000) (hl : g.Edges.length ≤ 400) (hK : (n + 1) * g.Edges.length + 1 ≤ 1400) :
    ref17_Paths g = some ⟨(O : Int), (I : Int), (List.range (O * I)).map (entry I M g.E)⟩ := by
  have i2 := h.i2; have m2 := h.m2; have o2 := h.o2; have i1 := h.i1
  have w := ways_l h 1000 (entry I M g.E) fun r c hr hc => by
    obtain ⟨e1, e2⟩ := ent_mod (r := r) hc
    unfold entry
    rw [e1, e2]
    have := sum_full h hg hn0 hl hK (to := I + M + r) (by omega) FU c 1000 (by simp only [FU]; omega) (by omega) (by omega) (by omega)
    exact this
  simp only [ref17_Paths, ref17_ways, ref17_Right_eq hg hn0 hn, h.right, Bool.not_true, cond_false, Option.bind_some, w, h.o, h.i]
theorem ref17_Direct_eq {g : Graph} {I M O n : Nat} (h : RGr g I M O) (hg : g.Ok n) (hn0 : 0 < n) (hn : n ≤ 3000) (hl : g.Edges.length ≤ 400) (hK : (n + 1) * g.Edges.length + 1 ≤ 1400) :
    ref17_Direct g = some ⟨(O : Int), (I : Int), (List.range (O * I)).map (dent I M g.E)⟩ := by
  have i2 := h.i2; have m2 := h.m2; have o2 := h.o2; have i1 := h.i1
  have w := ways_l h 1 (dent I M g.E) fun r c hr hc => by
    obtain ⟨e1, e2⟩ := ent_mod (r := r) hc
    unfold dent
    rw [e1, e2]
    exact sum_one h hg hn0 hl hK (to := I + M + r) 999999998 (by omega)
  simp only [ref17_Direct, ref17_ways, ref17_Right_eq hg hn0 hn, h.right, Bool.not_true, cond_false, Option.bind_some, w, h.o, h.i]
theorem ref17_Paths_no {g : Graph} {n : Nat} (hg : g.Ok n) (hn0 : 0 < n) (hn : n ≤ 3000) (h : g.right = false) : ref17_Paths g = some ⟨0, 0, []⟩ := by
  simp only [ref17_Paths, ref17_ways, ref17_Right_eq hg hn0 hn, h, Bool.not_false, cond_true, Option.bind_some]
theorem ref17_Direct_no {g : Graph} {n : Nat} (hg : g.Ok n) (hn0 : 0 < n) (hn : n ≤ 3000) (h : g.right = false) : ref17_Direct g = some ⟨0, 0, []⟩ := by
  simp only [ref17_Direct, ref17_ways, ref17_Right_eq hg hn0 hn, h, Bool.not_false, cond_true, Option.bind_some]

/-! ### all ways of one edge -/
theorem mids_on {g : Graph} {I M O : Nat} (h : RGr g I M O) : ∀ (k v : Nat), I + M ≤ k + v → I ≤ v → v < I + M → fr I g.E v = true → to_ (I + M) g.E v = true → ∃ w, w ∈ g.Edges ∧ I ≤ w.From.toNat ∧ fr I g.E w.From.toNat = true ∧ I + M ≤ w.To.toNat
  | 0, v, h1, h2, h3, _, _ => by omega
  | k + 1, v, h1, h2, h3, h4, h5 => by
    rw [to_first h, decide_eq_false (show ¬ I + M ≤ v by omega), Bool.false_or, List.any_eq_true] at h5
    obtain ⟨w, hw, ht⟩ := h5
    obtain ⟨hm, hv⟩ := gmem_outs hw
    have he := h.e w hm
    have hv' : w.From.toNat = v := by omega
    by_cases q : I + M ≤ w.To.toNat
    · exact ⟨w, hm, by omega, by rw [hv']; exact h4, q⟩
    · have hfr : fr I g.E w.To.toNat = true := by
        rw [fr_last h, Bool.or_eq_true]
        right
        rw [List.any_eq_true]
        refine ⟨w, ?_, by rw [hv']; exact h4⟩
        unfold Graph.ins
        rw [List.mem_filter, beq_iff_eq]
        exact ⟨hm, by omega⟩
      exact mids_on h k w.To.toNat (by omega) (by omega) (by omega) hfr ht
theorem fr_at {g : Graph} {I M O : Nat} (h : RGr g I M O) {i : Nat} (hi : i < g.Edges.length) : fr I (g.E.take i) (nth g.Edges i).From.toNat = fr I g.E (nth g.Edges i).From.toNat := by
  have e : g.E = g.E.take i ++ (nth g.Edges i).pe :: g.E.drop (i + 1) := by rw [← E_drop hi, List.take_append_drop]
  have := foldF_ahead (p := g.E.take i) (r := g.E.drop (i + 1)) (e := (nth g.Edges i).pe) (by rw [← e]; exact h.fwd) (sIn I)
  rw [← e] at this
  exact this.symm
theorem comp_iff {g : Graph} {I M O : Nat} (h : RGr g I M O) : g.comp I M = (List.range M).all fun i => !(fr I g.E (I + i) && to_ (I + M) g.E (I + i)) := by
  rw [Bool.eq_iff_iff]
  unfold Graph.comp
  rw [List.all_eq_true, List.all_eq_true]
  constructor
  · intro hc i hi
    rw [Bool.not_eq_true', Bool.eq_false_iff]
    intro hx
    rw [Bool.and_eq_true] at hx
    obtain ⟨w, w1, w2, w3, w4⟩ := mids_on h M (I + i) (by omega) (by omega) (by have := List.mem_range.1 hi; omega) hx.1 hx.2
    obtain ⟨j, hj, rfl⟩ := mem_nth w1
    have := hc j (by simpa using hj)
    have he := h.e _ (nth_mem hj)
    unfold compFits met at this
    rw [fr_at h hj, w3, decide_eq_true w2, decide_eq_true (show (I : Int) ≤ (nth g.Edges j).From by omega), decide_eq_true (show (I : Int) + M ≤ (nth g.Edges j).To by omega)] at this
    cases this
  · intro hc j hj
    have hj := List.mem_range.1 hj
    have he := h.e _ (nth_mem hj)
    unfold compFits
    rw [Bool.not_eq_true', Bool.eq_false_iff]
    intro hx
    rw [Bool.and_eq_true, Bool.and_eq_true, decide_eq_true_eq, decide_eq_true_eq] at hx
    obtain ⟨⟨x1, x2⟩, x3⟩ := hx
    unfold met at x2
    rw [fr_at h hj, Bool.and_eq_true] at x2
    have := hc ((nth g.Edges j).From.toNat - I) (by rw [List.mem_range]; omega)
    rw [show I + ((nth g.Edges j).From.toNat - I) = (nth g.Edges j).From.toNat by omega, x2.2, Bool.true_and, Bool.not_eq_true'] at this
    rw [to_first h, Bool.or_eq_false_iff, List.any_eq_false] at this
    refine this.2 (nth g.Edges j) ?_ ?_
    · unfold Graph.outs
      rw [List.mem_filter, beq_iff_eq]
      exact ⟨nth_mem hj, by omega⟩
    · rw [to_first h, decide_eq_true (show I + M ≤ (nth g.Edges j).To.toNat by omega)]
      rfl
theorem ref17_Complete_eq {g : Graph} {I M O n : Nat} (h : RGr g I M O) (hg : g.Ok n) (hn0 : 0 < n) (hn : n ≤ 3000) : ref17_Complete g = some (g.comp I M) := by
  have i2 := h.i2; have m2 := h.m2; have o2 := h.o2; have i1 := h.i1
  have hl := hg.e
  have hin : inK .i64 ((I : Int) + (M : Int)) = true := inK_i64 (by omega) (by omega)
  have e : ref17_Complete_l g (I : Int) = some (if (List.range M).all (fun i => !(fr I g.E (I + i) && to_ (I + M) g.E (I + i))) = true then .inr () else .inl ()) := by
    have hr : ∀ i, i < M → ∀ a b, fr I g.E (I + i) = a → to_ (I + M) g.E (I + i) = b → ref17_Reaches g ((I + i : Nat) : Int) true = some a ∧ ref17_Reaches g ((I + i : Nat) : Int) false = some b := fun i hi a b ha hb => by
      have r1 := ref17_Reaches_back h hl (v := I + i) (by omega)
      have r2 := ref17_Reaches_on h hl (v := I + i) (by omega)
      rw [ha] at r1; rw [hb] at r2
      exact ⟨r1, r2⟩
    have := loop_allS (round := fun σ : Int => ref17_Complete_l_rd g σ) (fun i => ((I + i : Nat) : Int)) (fun i => !(fr I g.E (I + i) && to_ (I + M) g.E (I + i))) M (.inr ()) (.inl ()) (fun i hi hp => ?_) (fun i hi hp => ?_) ?_ (by simp only [FU]; omega)
    · exact this
    · obtain ⟨r1, r2⟩ := hr i hi _ _ rfl rfl
      have lt : ((I + i : Nat) : Int) < (I : Int) + (M : Int) := by omega
      have e1 : ((I + i : Nat) : Int) + 1 = ((I + (i + 1) : Nat) : Int) := by omega
      have hin2 : inK .i64 ((I + (i + 1) : Nat) : Int) = true := inK_i64 (by omega) (by omega)
      generalize fr I g.E (I + i) = a at *
      generalize to_ (I + M) g.E (I + i) = b at *
      cases a <;> cases b <;> first | (cases hp; done) | simp only [ref17_Complete_l_rd, h.i, h.m, hin, hin2, e1, decide_eq_true lt, r1, r2, Option.bind_some, cond_true, cond_false]
    · obtain ⟨r1, r2⟩ := hr i hi _ _ rfl rfl
      have lt : ((I + i : Nat) : Int) < (I : Int) + (M : Int) := by omega
      generalize fr I g.E (I + i) = a at *
      generalize to_ (I + M) g.E (I + i) = b at *
      cases a <;> cases b <;> first | (cases hp; done) | simp only [ref17_Complete_l_rd, h.i, h.m, hin, decide_eq_true lt, r1, r2, Option.bind_some, cond_true, cond_false]
    · have lt : ¬ ((I + M : Nat) : Int) < (I : Int) + (M : Int) := by omega
      simp only [ref17_Complete_l_rd, h.i, h.m, hin, decide_eq_false lt, cond_true, cond_false]
  rw [comp_iff h]
  simp only [ref17_Complete, ref17_Right_eq hg hn0 hn, h.right, Bool.not_true, cond_false, h.i, e, Option.bind_some]
  cases (List.range M).all fun i => !(fr I g.E (I + i) && to_ (I + M) g.E (I + i)) <;> rfl
theorem ref17_Complete_no {g : Graph} {n : Nat} (hg : g.Ok n) (hn0 : 0 < n) (hn : n ≤ 3000) (h : g.right = false) : ref17_Complete g = some false := by
  simp only [ref17_Complete, ref17_Right_eq hg hn0 hn, h, Bool.not_false, cond_true, Option.bind_some]

/-! ### what is one with itself -/
theorem edges_same {l : List Edge} (hl : l.length ≤ 1000000) (hw : ∀ w, w ∈ l → w.W.Num.length ≤ 900000000 ∧ w.W.Den.length ≤ 900000000) : ref16_All l l = some true := by
  have e : ref16_All_l l l 0 = some (.inr ()) := by
    unfold ref16_All_l
    refine loop_run (round := fun σ => ref16_All_l_rd l l σ) (fun i => i) l.length (fun i hi => ?_) ?_ (by simp only [FU]; omega)
    · have q := ref08_Equal_eq (x := (nth l i).W) (y := (nth l i).W) (hw _ (nth_mem hi)).1 (hw _ (nth_mem hi)).2
      simp (disch := omega) only [ref16_All_l_rd, q, decide_true, Bool.not_true, cond_false, bne_self_eq_false, Option.bind_some, Bool.cond_decide, if_t, inK_i64, cond_true]
    · simp only [ref16_All_l_rd, Int.lt_irrefl, decide_false, cond_false]
  simp only [ref16_All, bne_self_eq_false, cond_false, e, Option.bind_some, caseS_inr]
theorem jacs_same {j : Jac} (hl : j.All.length ≤ 1000000) (hw : ∀ x, x ∈ j.All → x.Num.length ≤ 900000000 ∧ x.Den.length ≤ 900000000) : ref16_Jacs j j = some true := by
  simp only [ref16_Jacs, BEq.rfl, cond_true, All_same hl hw, Option.bind_some]
theorem graph_same {g : Graph} (hl : g.Edges.length ≤ 1000000) (hg : g.Gone.length ≤ 1000000) (hw : ∀ w, w ∈ g.Edges → w.W.Num.length ≤ 900000000 ∧ w.W.Den.length ≤ 900000000) : ref17_Same g g = some true := by
  have e : ref17_Same_l g g 0 = some (.inr ()) := by
    unfold ref17_Same_l
    refine loop_run (round := fun σ => ref17_Same_l_rd g g σ) (fun i => i) g.Gone.length (fun i hi => ?_) ?_ (by simp only [FU]; omega)
    · simp (disch := omega) only [ref17_Same_l_rd, bne_self_eq_false, cond_false, Bool.cond_decide, if_t, inK_i64, cond_true]
    · simp only [ref17_Same_l_rd, Int.lt_irrefl, decide_false, cond_false]
  simp only [ref17_Same, bne_self_eq_false, cond_false, e, Option.bind_some, caseS_inr, edges_same hl hw]
theorem Ok.len {g : Graph} {n : Nat} (hg : g.Ok n) (hn : n ≤ 900000000) : ∀ w, w ∈ g.Edges → w.W.Num.length ≤ 900000000 ∧ w.W.Den.length ≤ 900000000 := fun w hw => by
  obtain ⟨i, hi, rfl⟩ := mem_nth hw
  obtain ⟨-, -, a, b⟩ := hg.w i hi
  exact ⟨by omega, by omega⟩
theorem ofR_len {n : Nat} {q : _root_.Rat} (h : szQ n q) (hn : n ≤ 900000000) : (ofR q).Num.length ≤ 900000000 ∧ (ofR q).Den.length ≤ 900000000 := ⟨Nat.le_trans h.num hn, Nat.le_trans h.den hn⟩
theorem paths_same {g : Graph} {I M O n : Nat} (h : RGr g I M O) (hg : g.Ok n) (hn0 : 0 < n) (hK : (n + 1) * g.Edges.length + 1 ≤ 100000) : ref16_Jacs ⟨(O : Int), (I : Int), (List.range (O * I)).map (entry I M g.E)⟩ ⟨(O : Int), (I : Int), (List.range (O * I)).map (entry I M g.E)⟩ = some true := by
  have hOI : O * I ≤ 1600 := Nat.mul_le_mul h.o2 h.i2
  refine jacs_same (by show ((List.range (O * I)).map (entry I M g.E)).length ≤ _; rw [tab_len]; omega) fun x hx => ?_
  have hx : x ∈ (List.range (O * I)).map (entry I M g.E) := hx
  obtain ⟨k, hk, rfl⟩ := List.mem_map.1 hx
  have := bk_sz (h.lab hg hn0) (I + M + k / I) (k % I)
  rw [E_len] at this
  exact ofR_len this (by omega)
theorem dq_sz {n : Nat} {l : List PE} (hl : Lab n l) (c to : Nat) (h1000 : l.length ≤ 1000) : szQ ((n + 1) * l.length + 1) (dq l c to) := by
  have := (part_sz2 hl (fun _ => 1) (fun p e r hpr => by
    have := SZ.one.up (DD_pos r)
    rw [Nat.one_mul] at this
    exact this.mono (DD_le r)) (m := l.filter (onE c to)) fun e he => (List.mem_filter.1 he).1).word hl (Nat.le_trans (List.length_filter_le _ _) h1000)
  have e : (l.filter (onE c to)).map (fun e => e.w * (1 : _root_.Rat)) = (l.filter (onE c to)).map (·.w) := List.map_congr_left fun e _ => by grind
  rw [e] at this
  exact this
theorem direct_same {g : Graph} {I M O n : Nat} (h : RGr g I M O) (hg : g.Ok n) (hn0 : 0 < n) (hl : g.Edges.length ≤ 1000) (hK : (n + 1) * g.Edges.length + 1 ≤ 100000) : ref16_Jacs ⟨(O : Int), (I : Int), (List.range (O * I)).map (dent I M g.E)⟩ ⟨(O : Int), (I : Int), (List.range (O * I)).map (dent I M g.E)⟩ = some true := by
  have hOI : O * I ≤ 1600 := Nat.mul_le_mul h.o2 h.i2
  refine jacs_same (by show ((List.range (O * I)).map (dent I M g.E)).length ≤ _; rw [tab_len]; omega) fun x hx => ?_
  have hx : x ∈ (List.range (O * I)).map (dent I M g.E) := hx
  obtain ⟨k, hk, rfl⟩ := List.mem_map.1 hx
  have := dq_sz (h.lab hg hn0) (k % I) (I + M + k / I) (by rw [E_len]; exact hl)
  rw [E_len] at this
  exact ofR_len this (by omega)
/-- a graph of a size that is looked at -/
def fewG (g : Graph) : Prop := g.Ins ≤ 4 ∧ g.Outs ≤ 4 ∧ g.Mids ≤ 7 ∧ g.Edges.length ≤ 40 ∧ g.Gone.length ≤ 10 ∧ ∀ w, w ∈ g.Edges → w.W.Num.length ≤ 2 ∧ w.W.Den.length ≤ 2
theorem ref17_Few_eq (g : Graph) : (fewG g → ref17_Few g = some true) ∧ (¬ fewG g → ref17_Few g = some false) := by
  have one : ∀ w : Edge, ref08_Few [w.W] 2 = some (decide (w.W.Num.length ≤ 2 ∧ w.W.Den.length ≤ 2)) := fun w => by
    have := Few_eq (l := [w.W]) (by simp) 2
    rw [show ((2 : Nat) : Int) = 2 from rfl] at this
    rw [this]
    congr 1
    simp
  have loop : g.Edges.length ≤ 40 → ref17_Few_l g 0 = some (if (List.range g.Edges.length).all (fun i => decide ((nth g.Edges i).W.Num.length ≤ 2 ∧ (nth g.Edges i).W.Den.length ≤ 2)) = true then .inr () else .inl ()) := fun h40 => by
    unfold ref17_Few_l
    refine loop_all (round := fun σ => ref17_Few_l_rd g σ) (fun i => decide ((nth g.Edges i).W.Num.length ≤ 2 ∧ (nth g.Edges i).W.Den.length ≤ 2)) g.Edges.length (.inr ()) (.inl ()) (fun i hi hp => ?_) (fun i hi hp => ?_) ?_ (by simp only [FU]; omega)
    · simp (disch := omega) only [ref17_Few_l_rd, one, hp, Bool.not_true, cond_false, Option.bind_some, Bool.cond_decide, if_t, inK_i64, cond_true]
    · simp (disch := omega) only [ref17_Few_l_rd, one, hp, Bool.not_false, Option.bind_some, Bool.cond_decide, if_t, cond_true]
    · simp only [ref17_Few_l_rd, Int.lt_irrefl, decide_false, cond_false]
  have al : ((List.range g.Edges.length).all (fun i => decide ((nth g.Edges i).W.Num.length ≤ 2 ∧ (nth g.Edges i).W.Den.length ≤ 2)) = true) ↔ ∀ w, w ∈ g.Edges → w.W.Num.length ≤ 2 ∧ w.W.Den.length ≤ 2 := by
    rw [List.all_eq_true]
    constructor
    · intro h w hw
      obtain ⟨i, hi, rfl⟩ := mem_nth hw
      exact of_decide_eq_true (h i (by simpa using hi))
    · intro h i hi
      exact decide_eq_true (h _ (nth_mem (by simpa using hi)))
  unfold fewG ref17_Few
  constructor
  · rintro ⟨a1, a2, a3, a4, a5, a6⟩
    rw [decide_eq_false (show ¬ g.Ins > 4 by omega), cond_false, decide_eq_false (show ¬ g.Outs > 4 by omega), cond_false, decide_eq_false (show ¬ g.Mids > 7 by omega), cond_false, decide_eq_false (show ¬ ((g.Edges.length : Nat) : Int) > 40 by omega), cond_false, decide_eq_false (show ¬ ((g.Gone.length : Nat) : Int) > 10 by omega), cond_false, loop a4, if_pos (al.2 a6)]
    rfl
  · intro hn
    by_cases q1 : g.Ins > 4
    · rw [decide_eq_true q1, cond_true]
    by_cases q2 : g.Outs > 4
    · rw [decide_eq_false q1, cond_false, decide_eq_true q2, cond_true]
    by_cases q3 : g.Mids > 7
    · rw [decide_eq_false q1, cond_false, decide_eq_false q2, cond_false, decide_eq_true q3, cond_true]
    by_cases q4 : ((g.Edges.length : Nat) : Int) > 40
    · rw [decide_eq_false q1, cond_false, decide_eq_false q2, cond_false, decide_eq_false q3, cond_false, decide_eq_true q4, cond_true]
    by_cases q5 : ((g.Gone.length : Nat) : Int) > 10
    · rw [decide_eq_false q1, cond_false, decide_eq_false q2, cond_false, decide_eq_false q3, cond_false, decide_eq_false q4, cond_false, decide_eq_true q5, cond_true]
    rw [decide_eq_false q1, cond_false, decide_eq_false q2, cond_false, decide_eq_false q3, cond_false, decide_eq_false q4, cond_false, decide_eq_false q5, cond_false, loop (by omega), if_neg fun h => hn ⟨by omega, by omega, by omega, by omega, by omega, al.1 h⟩]
    rfl
end Go.Ab.M
namespace Go.Ab.M
set_option linter.unusedVariables false
theorem graph_Prune_eq {g : Graph} {I M O n : Nat} (h : RGr g I M O) (hg : g.Ok n) (hn : n ≤ 10000000) : graph_Prune g = some (g.prune I M) := by
  have i2 := h.i2; have m2 := h.m2; have o2 := h.o2; have i1 := h.i1
  have t1 : ((I : Int) + (M : Int) + (O : Int)).toNat = I + M + O := by omega
  have hc : slices_Clone_int_int g.Gone = some g.Gone := by
    have := hg.g
    unfold slices_Clone_int_int
    rw [decide_eq_true (by omega)]; rfl
  simp (disch := omega) only [graph_Prune, graph_Right_eq hn hg, h.right, h.i, h.m, h.o, t1, Prune_l h, Prune_l2 h hg.e, picked1_eq h hg.e, hc, Option.bind_some, Bool.not_true, cond_false, Bool.cond_decide, if_t, inK_i64, cond_true]
  rw [Graph.prune, h.i, h.m, h.o]
theorem graph_Prune_no {g : Graph} {n : Nat} (hn : n ≤ 10000000) (hg : g.Ok n) (h : g.right = false) : graph_Prune g = some (Graph.mk 0 0 0 [] []) := by
  simp only [graph_Prune, graph_Right_eq hn hg, h, Option.bind_some, Bool.not_false, cond_true]
theorem Ok.filter {g : Graph} {n : Nat} (hg : g.Ok n) (p : Edge → Bool) : (Graph.mk g.Ins g.Mids g.Outs (g.Edges.filter p) g.Gone).Ok n := by
  refine ⟨fun i hi => ?_, Nat.le_trans (List.length_filter_le _ _) hg.e, hg.g⟩
  have hm := nth_mem hi
  obtain ⟨j, hj, e⟩ := mem_nth (List.mem_filter.1 hm).1
  show okL n (nth (g.Edges.filter p) i).W
  rw [← e]
  exact hg.w j hj
end Go.Ab.M
end
