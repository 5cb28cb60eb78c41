/-
  TEXTS PUT TOGETHER: PlGr1, PlGr2.
-/
import Derived.Test.YthikenallhbkpaaGreatPJ
import Derived.Test.YthikenallhbkpaaGreatPE
import Derived.Test.YthikenallhbkpaaGreatTI
section
/-
  PLAIN LAW: RIGHT GRAPHS IN NATURAL NUMBERS; WHAT THE PROGRAM PICKS, AND ITS SUMS OVER WAYS.
  Conditions: none.
-/
namespace Go.Ab.M
open Go.Proofs
set_option linter.unusedVariables false
set_option linter.unusedSimpArgs false

def Edge.pe (w : Edge) : PE := ⟨w.From.toNat, w.To.toNat, qR w.W⟩
def Graph.E (g : Graph) : List PE := g.Edges.map Edge.pe
/-- what a right graph is, in natural numbers -/
structure RGr (g : Graph) (I M O : Nat) : Prop where
  i : g.Ins = (I : Int)
  m : g.Mids = (M : Int)
  o : g.Outs = (O : Int)
  i1 : 1 ≤ I
  i2 : I ≤ 40
  m2 : M ≤ 400
  o1 : 1 ≤ O
  o2 : O ≤ 40
  e : ∀ w, w ∈ g.Edges → 0 ≤ w.From ∧ w.From < (I : Int) + M ∧ (I : Int) ≤ w.To ∧ w.To < (I : Int) + M + O ∧ w.From < w.To ∧ isR w.W = true
  s : g.Edges.Pairwise edgeLt
  gn : ∀ v, v ∈ g.Gone → (I : Int) ≤ v ∧ v < (I : Int) + M ∧ ∀ w, w ∈ g.Edges → w.From ≠ v ∧ w.To ≠ v
  gs : g.Gone.Pairwise (· < ·)

theorem pair_adj {α : Type} [Inhabited α] {R : α → α → Prop} (tr : ∀ a b c, R a b → R b c → R a c) {l : List α} : l.Pairwise R ↔ ∀ i, i < l.length → i = 0 ∨ R (nth l (i - 1)) (nth l i) := by
  constructor
  · intro h i hi
    by_cases h0 : i = 0
    · exact .inl h0
    · right
      rw [nth_get (by omega : i - 1 < l.length), nth_get hi]
      exact List.pairwise_iff_getElem.1 h _ _ _ _ (by omega)
  · intro h
    refine List.pairwise_iff_getElem.2 ?_
    have key : ∀ d i (hi : i + d + 1 < l.length), R (l[i]'(by omega)) l[i + d + 1] := by
      intro d
      induction d with
      | zero =>
        intro i hi
        have := h (i + 1) (by omega)
        rcases this with e | e
        · omega
        · rw [nth_get (by omega), nth_get (by omega)] at e
          exact e
      | succ d ih =>
        intro i hi
        have h1 := ih i (by omega)
        have := h (i + (d + 1) + 1) (by omega)
        rcases this with e | e
        · omega
        · rw [nth_get (by omega), nth_get (by omega)] at e
          exact tr _ _ _ h1 e
    intro i j hi hj hij
    have := key (j - i - 1) i (by omega)
    have e : i + (j - i - 1) + 1 = j := by omega
    simp only [e] at this
    exact this
theorem edgeLt_tr (a b c : Edge) (h : edgeLt a b) (k : edgeLt b c) : edgeLt a c := by unfold edgeLt at *; omega
theorem mem_nth {α : Type} [Inhabited α] {l : List α} {x : α} (h : x ∈ l) : ∃ i, i < l.length ∧ nth l i = x := by
  obtain ⟨i, hi, e⟩ := List.getElem_of_mem h
  exact ⟨i, hi, by rw [nth_get hi, e]⟩
theorem right_gr {g : Graph} (h : g.right = true) : RGr g g.Ins.toNat g.Mids.toNat g.Outs.toNat := by
  simp only [Graph.right, Bool.and_eq_true, List.all_eq_true, List.mem_range] at h
  obtain ⟨⟨h1, h2⟩, h3⟩ := h
  have hs := sized_iff.1 h1
  simp only [Graph.shape] at hs
  simp only [Graph.goneOk, List.all_eq_true, List.mem_range] at h2
  have h2' : ∀ i, i < g.Gone.length → (g.Ins ≤ nth g.Gone i ∧ nth g.Gone i < g.Ins + g.Mids) ∧ (i = 0 ∨ nth g.Gone (i - 1) < nth g.Gone i) := fun i hi => by
    have := h2 i hi
    simp only [Graph.goneFits, Bool.and_eq_true, Bool.or_eq_true, decide_eq_true_eq] at this
    exact this
  have h4 : ∀ i, i < g.Edges.length → g.pairFits i ∧ isR (nth g.Edges i).W = true ∧ (nth g.Edges i).From ∉ g.Gone ∧ (nth g.Edges i).To ∉ g.Gone := fun i hi => by
    have := h3 i hi
    simp only [Graph.fits, Bool.and_eq_true, Bool.not_eq_true', decide_eq_false_iff_not] at this
    exact ⟨(shape_fits hi).1 this.1.1.1, this.1.1.2, this.1.2, this.2⟩
  refine ⟨by omega, by omega, by omega, by omega, by omega, by omega, by omega, by omega, fun w hw => ?_, (pair_adj edgeLt_tr).2 fun i hi => ?_, fun v hv => ?_, (pair_adj (R := fun a b : Int => a < b) (fun a b c => Int.lt_trans)).2 fun i hi => (h2' i hi).2⟩
  · obtain ⟨i, hi, rfl⟩ := mem_nth hw
    obtain ⟨⟨p1, p2, p3, p4, p5, p6⟩, q, -, -⟩ := h4 i hi
    exact ⟨p1, by omega, by omega, by omega, p5, q⟩
  · obtain ⟨⟨p1, p2, p3, p4, p5, p6⟩, -⟩ := h4 i hi
    unfold edgeLt
    exact p6
  · obtain ⟨i, hi, rfl⟩ := mem_nth hv
    have := (h2' i hi).1
    refine ⟨by omega, by omega, fun w hw => ?_⟩
    obtain ⟨j, hj, rfl⟩ := mem_nth hw
    obtain ⟨-, -, q1, q2⟩ := h4 j hj
    exact ⟨fun e => q1 (e ▸ hv), fun e => q2 (e ▸ hv)⟩
theorem RGr.right {g : Graph} {I M O : Nat} (h : RGr g I M O) : g.right = true := by
  simp only [Graph.right, Bool.and_eq_true, List.all_eq_true, List.mem_range]
  have hi := h.i; have hm := h.m; have ho := h.o; have i1 := h.i1; have i2 := h.i2; have m2 := h.m2; have o1 := h.o1; have o2 := h.o2
  refine ⟨⟨sized_iff.2 ?_, ?_⟩, fun j hj => ?_⟩
  · simp only [Graph.shape]; omega
  · simp only [Graph.goneOk, List.all_eq_true, List.mem_range]
    intro j hj
    have h1 := h.gn _ (nth_mem hj)
    have h2 := (pair_adj (R := fun a b : Int => a < b) (fun a b c => Int.lt_trans)).1 h.gs j hj
    simp only [Graph.goneFits, Bool.and_eq_true, Bool.or_eq_true, decide_eq_true_eq]
    exact ⟨⟨by omega, by omega⟩, h2⟩
  · have h1 := h.e _ (nth_mem hj)
    have h2 := (pair_adj edgeLt_tr).1 h.s j hj
    simp only [Graph.fits, Bool.and_eq_true, Bool.not_eq_true', decide_eq_false_iff_not]
    unfold edgeLt at h2
    refine ⟨⟨⟨(shape_fits hj).2 ⟨h1.1, by omega, by omega, by omega, by omega, h2⟩, h1.2.2.2.2.2⟩, fun e => ?_⟩, fun e => ?_⟩
    · exact ((h.gn _ e).2.2 _ (nth_mem hj)).1 rfl
    · exact ((h.gn _ e).2.2 _ (nth_mem hj)).2 rfl
theorem E_len (g : Graph) : g.E.length = g.Edges.length := List.length_map ..
theorem E_nth {g : Graph} {i : Nat} (hi : i < g.Edges.length) : g.E.take (i + 1) = g.E.take i ++ [(nth g.Edges i).pe] := by
  unfold Graph.E
  rw [List.take_add_one, List.getElem?_map, List.getElem?_eq_getElem hi, nth_get hi]
  rfl

/-! ### picks -/
theorem filter_step {α : Type} [Inhabited α] {l : List α} {i : Nat} (hi : i < l.length) (p : α → Bool) : (l.take (i + 1)).filter p = if p (nth l i) = true then (l.take i).filter p ++ [nth l i] else (l.take i).filter p := by
  rw [take_nth hi, List.filter_append, List.filter_cons, List.filter_nil]
  split <;> simp
theorem filt_len {α : Type} {l : List α} (p : α → Bool) (i : Nat) : ((l.take i).filter p).length ≤ l.length := Nat.le_trans (List.length_filter_le _ _) (by rw [List.length_take]; omega)
theorem picked2_eq {l : List Edge} (v : Int) (hl : l.length ≤ 100000) : graph_picked_api_Edge_2 v l = some (l.filter fun w => w.To == v) := by
  have run : graph_picked_api_Edge_l_2 v l [] 0 = some (l.filter fun w => w.To == v) := by
    have := loop_run (round := fun σ : List Edge × Nat => graph_picked_api_Edge_l_2_rd v l σ.1 σ.2) (fun i => ((l.take i).filter (fun w => w.To == v), i)) l.length (r := (l.take l.length).filter (fun w => w.To == v)) (fun i hi => ?_) ?_ (by simp only [FU]; omega)
    · rw [List.take_length] at this; exact this
    · have hq := filt_len (l := l) (fun w : Edge => w.To == v) i
      show graph_picked_api_Edge_l_2_rd v l ((l.take i).filter (fun w => w.To == v)) i = some (.inl ((l.take (i + 1)).filter (fun w => w.To == v), i + 1))
      rw [filter_step hi]
      rcases Bool.eq_false_or_eq_true ((nth l i).To == v) with q | q
      · simp (disch := omega) only [graph_picked_api_Edge_l_2_rd, graph_In_1, q, Option.bind_some, Bool.cond_decide, if_t, inK_i64, cond_true, if_true]
      · simp (disch := omega) only [graph_picked_api_Edge_l_2_rd, graph_In_1, q, Option.bind_some, Bool.cond_decide, if_t, inK_i64, cond_true, cond_false, Bool.false_eq_true, if_false]
    · simp only [graph_picked_api_Edge_l_2_rd, Int.lt_irrefl, decide_false, cond_false]
  simp only [graph_picked_api_Edge_2, run, Option.bind_some]
theorem picked3_eq {l : List Edge} (v : Int) (hl : l.length ≤ 100000) : graph_picked_api_Edge_3 v l = some (l.filter fun w => w.From == v) := by
  have run : graph_picked_api_Edge_l_3 v l [] 0 = some (l.filter fun w => w.From == v) := by
    have := loop_run (round := fun σ : List Edge × Nat => graph_picked_api_Edge_l_3_rd v l σ.1 σ.2) (fun i => ((l.take i).filter (fun w => w.From == v), i)) l.length (r := (l.take l.length).filter (fun w => w.From == v)) (fun i hi => ?_) ?_ (by simp only [FU]; omega)
    · rw [List.take_length] at this; exact this
    · have hq := filt_len (l := l) (fun w : Edge => w.From == v) i
      show graph_picked_api_Edge_l_3_rd v l ((l.take i).filter (fun w => w.From == v)) i = some (.inl ((l.take (i + 1)).filter (fun w => w.From == v), i + 1))
      rw [filter_step hi]
      rcases Bool.eq_false_or_eq_true ((nth l i).From == v) with q | q
      · simp (disch := omega) only [graph_picked_api_Edge_l_3_rd, graph_Out_1, q, Option.bind_some, Bool.cond_decide, if_t, inK_i64, cond_true, if_true]
      · simp (disch := omega) only [graph_picked_api_Edge_l_3_rd, graph_Out_1, q, Option.bind_some, Bool.cond_decide, if_t, inK_i64, cond_true, cond_false, Bool.false_eq_true, if_false]
    · simp only [graph_picked_api_Edge_l_3_rd, Int.lt_irrefl, decide_false, cond_false]
  simp only [graph_picked_api_Edge_3, run, Option.bind_some]
def Graph.ins (g : Graph) (v : Int) : List Edge := g.Edges.filter fun w => w.To == v
def Graph.outs (g : Graph) (v : Int) : List Edge := g.Edges.filter fun w => w.From == v
theorem graph_In_eq {g : Graph} {n : Nat} (hn : n ≤ 10000000) (hg : g.Ok n) (v : Int) : graph_In g v = some (if g.right = true then g.ins v else []) := by
  simp only [graph_In, graph_Right_eq hn hg, Option.bind_some, picked2_eq v hg.e]
  rcases Bool.eq_false_or_eq_true g.right with q | q
  · simp only [q, Bool.not_true, cond_false, if_true, Graph.ins]
  · simp only [q, Bool.not_false, cond_true, Bool.false_eq_true, if_false]
theorem graph_Out_eq {g : Graph} {n : Nat} (hn : n ≤ 10000000) (hg : g.Ok n) (v : Int) : graph_Out g v = some (if g.right = true then g.outs v else []) := by
  simp only [graph_Out, graph_Right_eq hn hg, Option.bind_some, picked3_eq v hg.e]
  rcases Bool.eq_false_or_eq_true g.right with q | q
  · simp only [q, Bool.not_true, cond_false, if_true, Graph.outs]
  · simp only [q, Bool.not_false, cond_true, Bool.false_eq_true, if_false]

/-! ### tables -/
/-! ### sums over ways -/
/-- a number, or the zero value -/
def isQ (x : Rat) (q : _root_.Rat) : Prop := x = ofR q ∨ (x = ⟨false, [], []⟩ ∧ q = 0)
theorem isQ.ok {x : Rat} {q : _root_.Rat} {n : Nat} (h : isQ x q) (k : szQ n q) : okL n x := by
  rcases h with rfl | ⟨rfl, rfl⟩
  · exact k.ok
  · exact ⟨Wds.nil, Wds.nil, Nat.zero_le _, Nat.zero_le _⟩
end Go.Ab.M
end

section
/-
  PLAIN LAW: WAYS OF ONE EDGE, WHETHER ALL HAVE ONE, AND WHAT IS PRUNED, AS THE PROGRAM TELLS.
  Conditions: none.
-/
namespace Go.Ab.M
open Go.Proofs
set_option linter.unusedVariables false
set_option linter.unusedSimpArgs false

/-! ### ways of one edge -/
def onE (c to : Nat) (e : PE) : Bool := decide (e.f = c) && decide (e.t = to)
theorem edge_once {g : Graph} {I M O : Nat} (h : RGr g I M O) {i : Nat} (hi : i < g.Edges.length) : ∀ e, e ∈ g.E.take i → onE (nth g.Edges i).From.toNat (nth g.Edges i).To.toNat e = false := fun e he => by
  unfold Graph.E at he
  rw [← List.map_take] at he
  obtain ⟨w, hw, rfl⟩ := List.mem_map.1 he
  obtain ⟨j, hj, e⟩ := List.getElem_of_mem hw
  rw [List.length_take] at hj
  rw [List.getElem_take] at e
  have := List.pairwise_iff_getElem.1 h.s j i (by omega) hi (by omega)
  rw [e, ← nth_get hi] at this
  have a := h.e _ (nth_mem hi)
  have b := h.e w (List.mem_of_mem_take hw)
  unfold edgeLt at this
  unfold onE Edge.pe
  simp only [Bool.and_eq_false_iff, decide_eq_false_iff_not]
  by_cases q : w.From = (nth g.Edges i).From
  · right; omega
  · left; omega
/-! ### reaching -/
def sOut (IM : Nat) : Nat → Bool := fun v => decide (IM ≤ v)
/-- an output is reached -/
def to_ (IM : Nat) (l : List PE) : Nat → Bool := bkB (sOut IM) l
/-! ### are all ways of one edge? -/
/-! ### pruning -/
end Go.Ab.M
end
