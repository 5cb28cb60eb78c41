/-
  TEXTS PUT TOGETHER: PlGr1, PlGr2.
-/
import Derived.Test.YthikenallhbkpaaGreatPJ
import Derived.Test.YthikenallhbkpaaGreatPE
import Derived.Test.YthikenallhbkpaaGreatTI
section
/-
  PLAIN LAW: RIGHT GRAPHS IN NATURAL NUMBERS; WHAT THE PROGRAM PICKS, AND ITS SUMS OVER WAYS.
  Conditions: none.
-/
namespace Go.Ab.M
open Go.Proofs
set_option linter.unusedVariables false
set_option linter.unusedSimpArgs false

def Edge.pe (w : Edge) : PE := ⟨w.From.toNat, w.To.toNat, qR w.W⟩
def Graph.E (g : Graph) : List PE := g.Edges.map Edge.pe
/-- what a right graph is, in natural numbers -/
structure RGr (g : Graph) (I M O : Nat) : Prop where
  i : g.Ins = (I : Int)
  m : g.Mids = (M : Int)
  o : g.Outs = (O : Int)
  i1 : 1 ≤ I
  i2 : I ≤ 40
  m2 : M ≤ 400
  o1 : 1 ≤ O
  o2 : O ≤ 40
  e : ∀ w, w ∈ g.Edges → 0 ≤ w.From ∧ w.From < (I : Int) + M ∧ (I : Int) ≤ w.To ∧ w.To < (I : Int) + M + O ∧ w.From < w.To ∧ isR w.W = true
  s : g.Edges.Pairwise edgeLt
  gn : ∀ v, v ∈ g.Gone → (I : Int) ≤ v ∧ v < (I : Int) + M ∧ ∀ w, w ∈ g.Edges → w.From ≠ v ∧ w.To ≠ v
  gs : g.Gone.Pairwise (· < ·)

theorem pair_adj {α : Type} [Inhabited α] {R : α → α → Prop} (tr : ∀ a b c, R a b → R b c → R a c) {l : List α} : l.Pairwise R ↔ ∀ i, i < l.length → i = 0 ∨ R (nth l (i - 1)) (nth l i) := by
  constructor
  · intro h i hi
    by_cases h0 : i = 0
    · exact .inl h0
    · right
      rw [nth_get (by omega : i - 1 < l.length), nth_get hi]
      exact List.pairwise_iff_getElem.1 h _ _ _ _ (by omega)
  · intro h
    refine List.pairwise_iff_getElem.2 ?_
    have key : ∀ d i (hi : i + d + 1 < l.length), R (l[i]'(by omega)) l[i + d + 1] := by
      intro d
      induction d with
      | zero =>
        intro i hi
        have := h (i + 1) (by omega)
        rcases this with e | e
        · omega
        · rw [nth_get (by omega), nth_get (by omega)] at e
          exact e
      | succ d ih =>
        intro i hi
        have h1 := ih i (by omega)
        have := h (i + (d + 1) + 1) (by omega)
        rcases this with e | e
        · omega
        · rw [nth_get (by omega), nth_get (by omega)] at e
          exact tr _ _ _ h1 e
    intro i j hi hj hij
    have := key (j - i - 1) i (by omega)
    have e : i + (j - i - 1) + 1 = j := by omega
    simp only [e] at this
    exact this
theorem edgeLt_tr (a b c : Edge) (h : edgeLt a b) (k : edgeLt b c) : edgeLt a c := by unfold edgeLt at *; omega
theorem mem_nth {α : Type} [Inhabited α] {l : List α} {x : α} (h : x ∈ l) : ∃ i, i < l.length ∧ nth l i = x := by
  obtain ⟨i, hi, e⟩ := List.getElem_of_mem h
  exact ⟨i, hi, by rw [nth_get hi, e]⟩
theorem right_gr {g : Graph} (h : g.right = true) : RGr g g.Ins.toNat g.Mids.toNat g.Outs.toNat := by
  simp only [Graph.right, Bool.and_eq_true, List.all_eq_true, List.mem_range] at h
  obtain ⟨⟨h1, h2⟩, h3⟩ := h
  have hs := sized_iff.1 h1
  simp only [Graph.shape] at hs
  simp only [Graph.goneOk, List.all_eq_true, List.mem_range] at h2
  have h2' : ∀ i, i < g.Gone.length → (g.Ins ≤ nth g.Gone i ∧ nth g.Gone i < g.Ins + g.Mids) ∧ (i = 0 ∨ nth g.Gone (i - 1) < nth g.Gone i) := fun i hi => by
    have := h2 i hi
    simp only [Graph.goneFits, Bool.and_eq_true, Bool.or_eq_true, decide_eq_true_eq] at this
    exact this
  have h4 : ∀ i, i < g.Edges.length → g.pairFits i ∧ isR (nth g.Edges i).W = true ∧ (nth g.Edges i).From ∉ g.Gone ∧ (nth g.Edges i).To ∉ g.Gone := fun i hi => by
    have := h3 i hi
    simp only [Graph.fits, Bool.and_eq_true, Bool.not_eq_true', decide_eq_false_iff_not] at this
    exact ⟨(shape_fits hi).1 this.1.1.1, this.1.1.2, this.1.2, this.2⟩
  refine ⟨by omega, by omega, by omega, by omega, by omega, by omega, by omega, by omega, fun w hw => ?_, (pair_adj edgeLt_tr).2 fun i hi => ?_, fun v hv => ?_, (pair_adj (R := fun a b : Int => a < b) (fun a b c => Int.lt_trans)).2 fun i hi => (h2' i hi).2⟩
  · obtain ⟨i, hi, rfl⟩ := mem_nth hw
    obtain ⟨⟨p1, p2, p3, p4, p5, p6⟩, q, -, -⟩ := h4 i hi
    exact ⟨p1, by omega, by omega, by omega, p5, q⟩
  · obtain ⟨⟨p1, p2, p3, p4, p5, p6⟩, -⟩ := h4 i hi
    unfold edgeLt
    exact p6
  · obtain ⟨i, hi, rfl⟩ := mem_nth hv
    have := (h2' i hi).1
    refine ⟨by omega, by omega, fun w hw => ?_⟩
    obtain ⟨j, hj, rfl⟩ := mem_nth hw
    obtain ⟨-, -, q1, q2⟩ := h4 j hj
    exact ⟨fun e => q1 (e ▸ hv), fun e => q2 (e ▸ hv)⟩
theorem RGr.right {g : Graph} {I M O : Nat} (h : RGr g I M O) : g.right = true := by
  simp only [Graph.right, Bool.and_eq_true, List.all_eq_true, List.mem_range]
  have hi := h.i; have hm := h.m; have ho := h.o; have i1 := h.i1; have i2 := h.i2; have m2 := h.m2; have o1 := h.o1; have o2 := h.o2
  refine ⟨⟨sized_iff.2 ?_, ?_⟩, fun j hj => ?_⟩
  · simp only [Graph.shape]; omega
  · simp only [Graph.goneOk, List.all_eq_true, List.mem_range]
    intro j hj
    have h1 := h.gn _ (nth_mem hj)
    have h2 := (pair_adj (R := fun a b : Int => a < b) (fun a b c => Int.lt_trans)).1 h.gs j hj
    simp only [Graph.goneFits, Bool.and_eq_true, Bool.or_eq_true, decide_eq_true_eq]
    exact ⟨⟨by omega, by omega⟩, h2⟩
  · have h1 := h.e _ (nth_mem hj)
    have h2 := (pair_adj edgeLt_tr).1 h.s j hj
    simp only [Graph.fits, Bool.and_eq_true, Bool.not_eq_true', decide_eq_false_iff_not]
    unfold edgeLt at h2
    refine ⟨⟨⟨(shape_fits hj).2 ⟨h1.1, by omega, by omega, by omega, by omega, h2⟩, h1.2.2.2.2.2⟩, fun e => ?_⟩, fun e => ?_⟩
    · exact ((h.gn _ e).2.2 _ (nth_mem hj)).1 rfl
    · exact ((h.gn _ e).2.2 _ (nth_mem hj)).2 rfl
theorem RGr.fwd {g : Graph} {I M O : Nat} (h : RGr g I M O) : Fwd g.E := by
  refine ⟨?_, fun e he => ?_⟩
  · unfold Graph.E
    rw [List.pairwise_map]
    refine h.s.imp fun {a b} hab => ?_
    simp only [Edge.pe, edgeLt] at hab ⊢
    omega
  · obtain ⟨w, hw, rfl⟩ := List.mem_map.1 he
    have := h.e w hw
    simp only [Edge.pe]
    omega
theorem RGr.lab {g : Graph} {I M O n : Nat} (h : RGr g I M O) (hg : g.Ok n) (hn : 0 < n) : Lab n g.E := fun e he => by
  obtain ⟨w, hw, rfl⟩ := List.mem_map.1 he
  obtain ⟨i, hi, rfl⟩ := mem_nth hw
  exact (hg.w i hi).sz hn
theorem E_len (g : Graph) : g.E.length = g.Edges.length := List.length_map ..
theorem E_nth {g : Graph} {i : Nat} (hi : i < g.Edges.length) : g.E.take (i + 1) = g.E.take i ++ [(nth g.Edges i).pe] := by
  unfold Graph.E
  rw [List.take_add_one, List.getElem?_map, List.getElem?_eq_getElem hi, nth_get hi]
  rfl

/-! ### picks -/
theorem filter_step {α : Type} [Inhabited α] {l : List α} {i : Nat} (hi : i < l.length) (p : α → Bool) : (l.take (i + 1)).filter p = if p (nth l i) = true then (l.take i).filter p ++ [nth l i] else (l.take i).filter p := by
  rw [take_nth hi, List.filter_append, List.filter_cons, List.filter_nil]
  split <;> simp
theorem filt_len {α : Type} {l : List α} (p : α → Bool) (i : Nat) : ((l.take i).filter p).length ≤ l.length := Nat.le_trans (List.length_filter_le _ _) (by rw [List.length_take]; omega)
theorem picked2_eq {l : List Edge} (v : Int) (hl : l.length ≤ 100000) : graph_picked_api_Edge_2 v l = some (l.filter fun w => w.To == v) := by
  have run : graph_picked_api_Edge_l_2 v l [] 0 = some (l.filter fun w => w.To == v) := by
    have := loop_run (round := fun σ : List Edge × Nat => graph_picked_api_Edge_l_2_rd v l σ.1 σ.2) (fun i => ((l.take i).filter (fun w => w.To == v), i)) l.length (r := (l.take l.length).filter (fun w => w.To == v)) (fun i hi => ?_) ?_ (by simp only [FU]; omega)
    · rw [List.take_length] at this; exact this
    · have hq := filt_len (l := l) (fun w : Edge => w.To == v) i
      show graph_picked_api_Edge_l_2_rd v l ((l.take i).filter (fun w => w.To == v)) i = some (.inl ((l.take (i + 1)).filter (fun w => w.To == v), i + 1))
      rw [filter_step hi]
      rcases Bool.eq_false_or_eq_true ((nth l i).To == v) with q | q
      · simp (disch := omega) only [graph_picked_api_Edge_l_2_rd, graph_In_1, q, Option.bind_some, Bool.cond_decide, if_t, inK_i64, cond_true, if_true]
      · simp (disch := omega) only [graph_picked_api_Edge_l_2_rd, graph_In_1, q, Option.bind_some, Bool.cond_decide, if_t, inK_i64, cond_true, cond_false, Bool.false_eq_true, if_false]
    · simp only [graph_picked_api_Edge_l_2_rd, Int.lt_irrefl, decide_false, cond_false]
  simp only [graph_picked_api_Edge_2, run, Option.bind_some]
theorem picked3_eq {l : List Edge} (v : Int) (hl : l.length ≤ 100000) : graph_picked_api_Edge_3 v l = some (l.filter fun w => w.From == v) := by
  have run : graph_picked_api_Edge_l_3 v l [] 0 = some (l.filter fun w => w.From == v) := by
    have := loop_run (round := fun σ : List Edge × Nat => graph_picked_api_Edge_l_3_rd v l σ.1 σ.2) (fun i => ((l.take i).filter (fun w => w.From == v), i)) l.length (r := (l.take l.length).filter (fun w => w.From == v)) (fun i hi => ?_) ?_ (by simp only [FU]; omega)
    · rw [List.take_length] at this; exact this
    · have hq := filt_len (l := l) (fun w : Edge => w.From == v) i
      show graph_picked_api_Edge_l_3_rd v l ((l.take i).filter (fun w => w.From == v)) i = some (.inl ((l.take (i + 1)).filter (fun w => w.From == v), i + 1))
      rw [filter_step hi]
      rcases Bool.eq_false_or_eq_true ((nth l i).From == v) with q | q
      · simp (disch := omega) only [graph_picked_api_Edge_l_3_rd, graph_Out_1, q, Option.bind_some, Bool.cond_decide, if_t, inK_i64, cond_true, if_true]
      · simp (disch := omega) only [graph_picked_api_Edge_l_3_rd, graph_Out_1, q, Option.bind_some, Bool.cond_decide, if_t, inK_i64, cond_true, cond_false, Bool.false_eq_true, if_false]
    · simp only [graph_picked_api_Edge_l_3_rd, Int.lt_irrefl, decide_false, cond_false]
  simp only [graph_picked_api_Edge_3, run, Option.bind_some]
def Graph.ins (g : Graph) (v : Int) : List Edge := g.Edges.filter fun w => w.To == v
def Graph.outs (g : Graph) (v : Int) : List Edge := g.Edges.filter fun w => w.From == v
theorem graph_In_eq {g : Graph} {n : Nat} (hn : n ≤ 10000000) (hg : g.Ok n) (v : Int) : graph_In g v = some (if g.right = true then g.ins v else []) := by
  simp only [graph_In, graph_Right_eq hn hg, Option.bind_some, picked2_eq v hg.e]
  rcases Bool.eq_false_or_eq_true g.right with q | q
  · simp only [q, Bool.not_true, cond_false, if_true, Graph.ins]
  · simp only [q, Bool.not_false, cond_true, Bool.false_eq_true, if_false]
theorem graph_Out_eq {g : Graph} {n : Nat} (hn : n ≤ 10000000) (hg : g.Ok n) (v : Int) : graph_Out g v = some (if g.right = true then g.outs v else []) := by
  simp only [graph_Out, graph_Right_eq hn hg, Option.bind_some, picked3_eq v hg.e]
  rcases Bool.eq_false_or_eq_true g.right with q | q
  · simp only [q, Bool.not_true, cond_false, if_true, Graph.outs]
  · simp only [q, Bool.not_false, cond_true, Bool.false_eq_true, if_false]

/-! ### tables -/
theorem tab_set {α : Type} (n : Nat) (f : Nat → α) (k : Nat) (x : α) : ((List.range n).map f).set k x = (List.range n).map fun j => if j = k then x else f j := by
  apply List.ext_getElem (by simp)
  intro i h1 h2
  rw [List.getElem_set, List.getElem_map, List.getElem_map, List.getElem_range]
  by_cases h : k = i
  · rw [if_pos h, if_pos h.symm]
  · rw [if_neg h, if_neg (fun e => h e.symm)]
theorem tab_congr {α : Type} {n : Nat} {f g : Nat → α} (h : ∀ k, k < n → f k = g k) : (List.range n).map f = (List.range n).map g := List.map_congr_left fun k hk => h k (by simpa using hk)
theorem tab_len {α : Type} {n : Nat} {f : Nat → α} : ((List.range n).map f).length = n := by simp
theorem tab_succ {α : Type} (n : Nat) (f : Nat → α) : (List.range (n + 1)).map f = (List.range n).map f ++ [f n] := by
  rw [List.range_succ, List.map_append]; rfl

theorem matrix_eq {g : Graph} {I M O : Nat} (h : RGr g I M O) : graph_matrix_2 g = some ⟨(O : Int), (I : Int), (List.range (O * I)).map fun _ => ofR 0⟩ := by
  have hk : g.Outs * g.Ins = ((O * I : Nat) : Int) := by rw [h.o, h.i]; simp
  have hOI : O * I ≤ 1600 := Nat.mul_le_mul h.o2 h.i2
  have run : graph_matrix_l_2 g 0 [] = some ((List.range (O * I)).map fun _ => ofR 0) := by
    refine loop_run (round := fun σ : Nat × List Rat => graph_matrix_l_2_rd g σ.1 σ.2) (fun i => (i, (List.range i).map fun _ => ofR 0)) (O * I) (fun i hi => ?_) ?_ (by simp only [FU]; omega)
    · show graph_matrix_l_2_rd g i ((List.range i).map fun _ => ofR 0) = some (.inl (i + 1, (List.range (i + 1)).map fun _ => ofR 0))
      have e : ((List.range i).map fun _ => ofR 0).length = i := tab_len
      rw [tab_succ]
      simp (disch := omega) only [graph_matrix_l_2_rd, hk, ratio_Of_eq (z := 0) (by decide) (by decide), Option.bind_some, Bool.cond_decide, if_t, inK_i64, cond_true, if_true]
      rfl
    · simp only [graph_matrix_l_2_rd, hk, Int.lt_irrefl, decide_false, cond_false]
  have hin : inK .i64 (g.Outs * g.Ins) = true := by rw [hk, inK_i64 (by omega) (by omega)]
  have hne : ((List.range (O * I)).map fun _ => ofR 0).isEmpty = false := by
    rw [List.isEmpty_eq_false_iff]
    intro e
    have := congrArg List.length e
    rw [tab_len] at this
    have h1 : 1 * 1 ≤ O * I := Nat.mul_le_mul h.o1 h.i1
    simp only [List.length_nil] at this
    omega
  unfold graph_matrix_2
  rw [hin]
  simp only [cond_true, run, Option.bind_some, h.o, h.i, hne, cond_false]

/-! ### sums over ways -/
/-- a number, or the zero value -/
def isQ (x : Rat) (q : _root_.Rat) : Prop := x = ofR q ∨ (x = ⟨false, [], []⟩ ∧ q = 0)
theorem isQ.q {x : Rat} {q : _root_.Rat} (h : isQ x q) : qR x = q := by
  rcases h with rfl | ⟨rfl, rfl⟩
  · exact qR_ofR _
  · rfl
theorem isQ.ok {x : Rat} {q : _root_.Rat} {n : Nat} (h : isQ x q) (k : szQ n q) : okL n x := by
  rcases h with rfl | ⟨rfl, rfl⟩
  · exact k.ok
  · exact ⟨Wds.nil, Wds.nil, Nat.zero_le _, Nat.zero_le _⟩
theorem Lab.take {n : Nat} {l : List PE} (h : Lab n l) (i : Nat) : Lab n (l.take i) := fun e he => h e (List.mem_of_mem_take he)
theorem foldS_sz {n : Nat} {l : List PE} (h : Lab n l) (c v : Nat) {K : Nat} (hK : (n + 1) * l.length + 1 ≤ K) : szQ K (foldS (unit c) l v) := by
  rw [foldS_bk]
  exact (bk_sz h v c).mono hK
theorem paths_in {g : Graph} {I M O n K : Nat} (h : RGr g I M O) (hg : g.Ok n) (hn0 : 0 < n) (hK : (n + 1) * g.Edges.length + 1 ≤ K) (hK2 : K ≤ 100000) (x1 : Jac) {c : Nat} (hc : c < I) (o1 : List Rat) :
    ∃ r, graph_Paths_l_2 g x1 c o1 0 ((List.replicate (I + M + O) ⟨false, [], []⟩).set c (ofR 1)) = some r ∧ (r.length = I + M + O ∧ ∀ v, v < I + M + O → isQ (nth r v) (foldS (unit c) g.E v)) := by
  have hl := hg.e
  have i2 := h.i2; have m2 := h.m2; have o2 := h.o2
  have hlab := h.lab hg hn0
  refine loop_inv (round := fun σ : Nat × List Rat => graph_Paths_l_2_rd g x1 c o1 σ.1 σ.2) (Q := fun r => r.length = I + M + O ∧ ∀ v, v < I + M + O → isQ (nth r v) (foldS (unit c) g.E v))
    (fun i σ => σ.1 = i ∧ σ.2.length = I + M + O ∧ ∀ v, v < I + M + O → isQ (nth σ.2 v) (foldS (unit c) (g.E.take i) v)) g.Edges.length _ ?_ ?_ ?_ (by simp only [FU]; omega)
  · refine ⟨rfl, by simp, fun v hv => ?_⟩
    show isQ (nth ((List.replicate (I + M + O) ⟨false, [], []⟩).set c (ofR 1)) v) (foldS (unit c) (g.E.take 0) v)
    rw [nth_set (by simp; omega)]
    show isQ _ (unit c v)
    unfold unit
    by_cases q : v = c
    · rw [if_pos q, if_pos q]; exact .inl rfl
    · rw [if_neg q, if_neg q]
      right
      refine ⟨?_, rfl⟩
      rw [nth_get (by simpa using hv), List.getElem_replicate]
  · rintro i ⟨j, s⟩ hi ⟨e1, e3, e4⟩
    have e1 : j = i := e1
    have e3 : s.length = I + M + O := e3
    subst e1
    have hw := h.e _ (nth_mem hi)
    have hz : szQ n (qR (nth g.Edges j).W) := hlab (nth g.Edges j).pe (List.mem_map_of_mem (nth_mem hi))
    have hf : (nth g.Edges j).From.toNat < I + M + O := by omega
    have ht : (nth g.Edges j).To.toNat < I + M + O := by omega
    have hKi : (n + 1) * (g.E.take j).length + 1 ≤ K := by
      have : (n + 1) * (g.E.take j).length ≤ (n + 1) * g.Edges.length := Nat.mul_le_mul_left _ (by rw [List.length_take, E_len]; omega)
      omega
    have hnK : n ≤ K := by
      have : (n + 1) * 1 ≤ (n + 1) * g.Edges.length := Nat.mul_le_mul_left _ (by omega)
      omega
    have a1 := e4 _ hf
    have a2 := e4 _ ht
    have z1 := foldS_sz (hlab.take j) c (nth g.Edges j).From.toNat hKi
    have z2 := foldS_sz (hlab.take j) c (nth g.Edges j).To.toNat hKi
    have m := ratio_Mul_eq (a1.ok z1) ((hg.w j hi).mono hnK) (by omega)
    rw [a1.q] at m
    have z3 : szQ (K + K) (foldS (unit c) (g.E.take j) (nth g.Edges j).From.toNat * qR (nth g.Edges j).W) := z1.mul (hz.mono hnK) (by omega)
    have ad := ratio_Add_eq (x := nth s (nth g.Edges j).To.toNat) ((a2.ok z2).mono (by omega : K ≤ K + K)) z3.ok (by omega) (by omega)
    rw [a2.q, qR_ofR] at ad
    refine ⟨(j + 1, s.set (nth g.Edges j).To.toNat (ofR (foldS (unit c) (g.E.take j) (nth g.Edges j).To.toNat + foldS (unit c) (g.E.take j) (nth g.Edges j).From.toNat * qR (nth g.Edges j).W))), ?_, rfl, by simpa using e3, fun v hv => ?_⟩
    · show graph_Paths_l_2_rd g x1 c o1 j s = _
      simp (disch := omega) only [graph_Paths_l_2_rd, m, ad, Option.bind_some, Bool.cond_decide, if_t, inK_i64, cond_true, if_true]
    · show isQ (nth (s.set (nth g.Edges j).To.toNat _) v) _
      rw [nth_set (by omega), E_nth hi, foldS_snoc, stepS]
      by_cases q : v = (nth g.Edges j).To.toNat
      · rw [if_pos q, if_pos (show v = (nth g.Edges j).pe.t from q), q]; exact .inl rfl
      · rw [if_neg q, if_neg (show ¬ v = (nth g.Edges j).pe.t from q)]; exact e4 v hv
  · rintro ⟨j, s⟩ ⟨e1, e3, e4⟩
    have e1 : j = g.Edges.length := e1
    subst e1
    refine ⟨s, ?_, e3, fun v hv => ?_⟩
    · simp only [graph_Paths_l_2_rd, Int.lt_irrefl, decide_false, cond_false]
    · have := e4 v hv
      rw [← E_len g, List.take_length] at this
      exact this

def pmat (I O c r : Nat) (F : Nat → Rat) : List Rat := (List.range (O * I)).map fun k => if k % I < c ∨ (k % I = c ∧ k / I < r) then F k else ofR 0
theorem pmat_set {I O c r : Nat} {F : Nat → Rat} (hc : c < I) : (pmat I O c r F).set (r * I + c) (F (r * I + c)) = pmat I O c (r + 1) F := by
  unfold pmat
  rw [tab_set]
  refine tab_congr fun k hk => ?_
  have e := Nat.div_add_mod k I
  rw [Nat.mul_comm] at e
  by_cases q : k = r * I + c
  · have q1 : k % I = c := by rw [q, Nat.add_comm, Nat.add_mul_mod_self_right, Nat.mod_eq_of_lt hc]
    have q2 : k / I = r := by rw [q, Nat.add_comm, Nat.add_mul_div_right _ _ (by omega), Nat.div_eq_of_lt hc, Nat.zero_add]
    rw [if_pos q, if_pos (.inr ⟨q1, by omega⟩), q]
  · rw [if_neg q]
    by_cases q1 : k % I < c
    · rw [if_pos (.inl q1), if_pos (.inl q1)]
    · by_cases q2 : k % I = c ∧ k / I < r
      · rw [if_pos (.inr q2), if_pos (.inr ⟨q2.1, by omega⟩)]
      · have q3 : ¬ (k % I = c ∧ k / I < r + 1) := by
          rintro ⟨a, b⟩
          have : k / I = r := by
            by_cases hh : k / I < r
            · exact absurd ⟨a, hh⟩ q2
            · omega
          apply q
          rw [← e, this, a]
        rw [if_neg (fun h => h.elim q1 q2), if_neg (fun h => h.elim q1 q3)]
theorem pmat_col {I O c : Nat} {F : Nat → Rat} (hI : 0 < I) : pmat I O c O F = pmat I O (c + 1) 0 F := by
  refine tab_congr fun k hk => ?_
  have h2 : k / I < O := Nat.div_lt_of_lt_mul (by rw [Nat.mul_comm]; exact hk)
  by_cases q1 : k % I < c
  · rw [if_pos (.inl q1), if_pos (.inl (by omega))]
  · by_cases q2 : k % I = c
    · rw [if_pos (.inr ⟨q2, h2⟩), if_pos (.inl (by omega))]
    · rw [if_neg (fun h => h.elim q1 fun h => q2 h.1), if_neg (fun h => h.elim (fun h => by omega) fun h => absurd h.2 (Nat.not_lt_zero _))]
theorem pmat_zero {I O : Nat} {F : Nat → Rat} : pmat I O 0 0 F = (List.range (O * I)).map fun _ => ofR 0 := tab_congr fun k hk => by
  rw [if_neg (fun h => h.elim (fun h => absurd h (Nat.not_lt_zero _)) fun h => absurd h.2 (Nat.not_lt_zero _))]
theorem pmat_all {I O : Nat} {F : Nat → Rat} (hI : 0 < I) : pmat I O I 0 F = (List.range (O * I)).map F := tab_congr fun k hk => by
  rw [if_pos (.inl (Nat.mod_lt _ hI))]
theorem pmat_len {I O c r : Nat} {F : Nat → Rat} : (pmat I O c r F).length = O * I := tab_len
/-- an entry: the sum over all ways -/
def entry (I M : Nat) (l : List PE) (k : Nat) : Rat := ofR (bk (I + M + k / I) l (k % I))
theorem Paths_3 {g : Graph} {I M O n K : Nat} (h : RGr g I M O) (hg : g.Ok n) (hn0 : 0 < n) (hK : (n + 1) * g.Edges.length + 1 ≤ K) (hK2 : K ≤ 100000) (x1 : Jac) {c : Nat} (hc : c < I) (x3 : List Rat)
    (h3 : x3.length = I + M + O) (h4 : ∀ v, v < I + M + O → isQ (nth x3 v) (foldS (unit c) g.E v)) : graph_Paths_l_3 g x1 c x3 0 (pmat I O c 0 (entry I M g.E)) = some (pmat I O (c + 1) 0 (entry I M g.E)) := by
  have i2 := h.i2; have m2 := h.m2; have o2 := h.o2; have i1 := h.i1
  have hlab := h.lab hg hn0
  rw [← pmat_col (by omega)]
  refine loop_run (round := fun σ : Nat × List Rat => graph_Paths_l_3_rd g x1 c x3 σ.1 σ.2) (fun r => (r, pmat I O c r (entry I M g.E))) O (fun r hr => ?_) ?_ (by simp only [FU]; omega)
  · show graph_Paths_l_3_rd g x1 c x3 r (pmat I O c r (entry I M g.E)) = some (.inl (r + 1, pmat I O c (r + 1) (entry I M g.E)))
    have a1 := h4 (I + M + r) (by omega)
    have f := ratio_Fix_eq (a1.ok (foldS_sz hlab c (I + M + r) (by rw [E_len]; exact hK))) (by omega)
    rw [a1.q, foldS_bk] at f
    have eF : ofR (bk (I + M + r) g.E c) = entry I M g.E (r * I + c) := by
      unfold entry
      rw [Nat.add_comm (r * I), Nat.add_mul_mod_self_right, Nat.mod_eq_of_lt hc, Nat.add_mul_div_right _ _ (by omega), Nat.div_eq_of_lt hc, Nat.zero_add]
    rw [eF] at f
    have t1 : ((I : Int) + (M : Int) + (r : Int)).toNat = I + M + r := by omega
    have hrI : ((r : Int) * (I : Int)) = ((r * I : Nat) : Int) := by simp
    have hlt : r * I + I ≤ O * I := by rw [← Nat.succ_mul]; exact Nat.mul_le_mul_right _ hr
    have hOI : O * I ≤ 1600 := Nat.mul_le_mul h.o2 h.i2
    have t2 : (((r * I : Nat) : Int) + (c : Int)).toNat = r * I + c := by omega
    have hpl : (pmat I O c r (entry I M g.E)).length = O * I := pmat_len
    simp (disch := omega) only [graph_Paths_l_3_rd, h.i, h.m, h.o, hrI, t1, t2, f, Option.bind_some, Bool.cond_decide, if_t, inK_i64, cond_true, if_true]
    rw [pmat_set hc]
  · simp only [graph_Paths_l_3_rd, h.o, Int.lt_irrefl, decide_false, cond_false]
theorem Paths_1 {g : Graph} {I M O n K : Nat} (h : RGr g I M O) (hg : g.Ok n) (hn0 : 0 < n) (hK : (n + 1) * g.Edges.length + 1 ≤ K) (hK2 : K ≤ 100000) (x1 : Jac) :
    graph_Paths_l g x1 0 ((List.range (O * I)).map fun _ => ofR 0) = some ((List.range (O * I)).map (entry I M g.E)) := by
  have i2 := h.i2; have m2 := h.m2; have o2 := h.o2; have i1 := h.i1
  rw [← pmat_zero (F := entry I M g.E), ← pmat_all i1]
  refine loop_run (round := fun σ : Nat × List Rat => graph_Paths_l_rd g x1 σ.1 σ.2) (fun c => (c, pmat I O c 0 (entry I M g.E))) I (fun c hc => ?_) ?_ (by simp only [FU]; omega)
  · show graph_Paths_l_rd g x1 c (pmat I O c 0 (entry I M g.E)) = some (.inl (c + 1, pmat I O (c + 1) 0 (entry I M g.E)))
    obtain ⟨r, r1, r3, r4⟩ := paths_in h hg hn0 hK hK2 x1 hc (pmat I O c 0 (entry I M g.E))
    have p3 := Paths_3 h hg hn0 hK hK2 x1 hc r r3 r4
    have t1 : ((I : Int) + (M : Int) + (O : Int)).toNat = I + M + O := by omega
    have o1 : ratio_Of 1 = some (ofR 1) := ratio_Of_eq (z := 1) (by decide) (by decide)
    have hrl : (List.replicate (I + M + O) (⟨false, [], []⟩ : Rat)).length = I + M + O := List.length_replicate
    simp (disch := omega) only [graph_Paths_l_rd, h.i, h.m, h.o, t1, o1, hrl, r1, p3, Option.bind_some, Bool.cond_decide, if_t, inK_i64, cond_true, if_true]
  · simp only [graph_Paths_l_rd, h.i, Int.lt_irrefl, decide_false, cond_false]
/-- WHAT PATHS TELLS -/
theorem graph_Paths_eq {g : Graph} {I M O n : Nat} (h : RGr g I M O) (hg : g.Ok n) (hn0 : 0 < n) (hn : n ≤ 10000000) (hK : (n + 1) * g.Edges.length + 1 ≤ 100000) :
    graph_Paths g = some ⟨(O : Int), (I : Int), (List.range (O * I)).map (entry I M g.E)⟩ := by
  have p := Paths_1 h hg hn0 (Nat.le_refl _) hK ⟨(O : Int), (I : Int), (List.range (O * I)).map fun _ => ofR 0⟩
  simp only [graph_Paths, graph_Right_eq hn hg, h.right, Option.bind_some, Bool.not_true, cond_false, matrix_eq h, p]
end Go.Ab.M
end

section
/-
  PLAIN LAW: WAYS OF ONE EDGE, WHETHER ALL HAVE ONE, AND WHAT IS PRUNED, AS THE PROGRAM TELLS.
  Conditions: none.
-/
namespace Go.Ab.M
open Go.Proofs
set_option linter.unusedVariables false
set_option linter.unusedSimpArgs false

/-! ### ways of one edge -/
def onE (c to : Nat) (e : PE) : Bool := decide (e.f = c) && decide (e.t = to)
/-! ### reaching -/
def sOut (IM : Nat) : Nat → Bool := fun v => decide (IM ≤ v)
/-- an output is reached -/
def to_ (IM : Nat) (l : List PE) : Nat → Bool := bkB (sOut IM) l
/-! ### are all ways of one edge? -/
/-! ### pruning -/
end Go.Ab.M
end
