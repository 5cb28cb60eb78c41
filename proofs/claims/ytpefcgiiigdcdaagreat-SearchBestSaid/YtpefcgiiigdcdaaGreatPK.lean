/-
  TEXTS PUT TOGETHER: PlGr1, PlGr2.
-/
import Derived.Test.YtpefcgiiigdcdaaGreatPJ
import Derived.Test.YtpefcgiiigdcdaaGreatPE
import Derived.Test.YtpefcgiiigdcdaaGreatTI
section
/-
  PLAIN LAW: RIGHT GRAPHS IN NATURAL NUMBERS; WHAT THE PROGRAM PICKS, AND ITS SUMS OVER WAYS.
  Conditions: none.
-/
namespace Go.Ab.M
open Go.Proofs
set_option linter.unusedVariables false
set_option linter.unusedSimpArgs false

/-- what a right graph is, in natural numbers -/
structure RGr (g : Graph) (I M O : Nat) : Prop where
  i : g.Ins = (I : Int)
  m : g.Mids = (M : Int)
  o : g.Outs = (O : Int)
  i1 : 1 ≤ I
  i2 : I ≤ 40
  m2 : M ≤ 400
  o1 : 1 ≤ O
  o2 : O ≤ 40
  e : ∀ w, w ∈ g.Edges → 0 ≤ w.From ∧ w.From < (I : Int) + M ∧ (I : Int) ≤ w.To ∧ w.To < (I : Int) + M + O ∧ w.From < w.To ∧ isR w.W = true
  s : g.Edges.Pairwise edgeLt
  gn : ∀ v, v ∈ g.Gone → (I : Int) ≤ v ∧ v < (I : Int) + M ∧ ∀ w, w ∈ g.Edges → w.From ≠ v ∧ w.To ≠ v
  gs : g.Gone.Pairwise (· < ·)

theorem pair_adj {α : Type} [Inhabited α] {R : α → α → Prop} (tr : ∀ a b c, R a b → R b c → R a c) {l : List α} : l.Pairwise R ↔ ∀ i, i < l.length → i = 0 ∨ R (nth l (i - 1)) (nth l i) := by
  constructor
  · intro h i hi
    by_cases h0 : i = 0
    · exact .inl h0
    · right
      rw [nth_get (by omega : i - 1 < l.length), nth_get hi]
      exact List.pairwise_iff_getElem.1 h _ _ _ _ (by omega)
  · intro h
    refine List.pairwise_iff_getElem.2 ?_
    have key : ∀ d i (hi : i + d + 1 < l.length), R (l[i]'(by omega)) l[i + d + 1] := by
      intro d
      induction d with
      | zero =>
        intro i hi
        have := h (i + 1) (by omega)
        rcases this with e | e
        · omega
        · rw [nth_get (by omega), nth_get (by omega)] at e
          exact e
      | succ d ih =>
        intro i hi
        have h1 := ih i (by omega)
        have := h (i + (d + 1) + 1) (by omega)
        rcases this with e | e
        · omega
        · rw [nth_get (by omega), nth_get (by omega)] at e
          exact tr _ _ _ h1 e
    intro i j hi hj hij
    have := key (j - i - 1) i (by omega)
    have e : i + (j - i - 1) + 1 = j := by omega
    simp only [e] at this
    exact this
theorem edgeLt_tr (a b c : Edge) (h : edgeLt a b) (k : edgeLt b c) : edgeLt a c := by unfold edgeLt at *; omega
theorem mem_nth {α : Type} [Inhabited α] {l : List α} {x : α} (h : x ∈ l) : ∃ i, i < l.length ∧ nth l i = x := by
  obtain ⟨i, hi, e⟩ := List.getElem_of_mem h
  exact ⟨i, hi, by rw [nth_get hi, e]⟩
theorem right_gr {g : Graph} (h : g.right = true) : RGr g g.Ins.toNat g.Mids.toNat g.Outs.toNat := by
  simp only [Graph.right, Bool.and_eq_true, List.all_eq_true, List.mem_range] at h
  obtain ⟨⟨h1, h2⟩, h3⟩ := h
  have hs := sized_iff.1 h1
  simp only [Graph.shape] at hs
  simp only [Graph.goneOk, List.all_eq_true, List.mem_range] at h2
  have h2' : ∀ i, i < g.Gone.length → (g.Ins ≤ nth g.Gone i ∧ nth g.Gone i < g.Ins + g.Mids) ∧ (i = 0 ∨ nth g.Gone (i - 1) < nth g.Gone i) := fun i hi => by
    have := h2 i hi
    simp only [Graph.goneFits, Bool.and_eq_true, Bool.or_eq_true, decide_eq_true_eq] at this
    exact this
  have h4 : ∀ i, i < g.Edges.length → g.pairFits i ∧ isR (nth g.Edges i).W = true ∧ (nth g.Edges i).From ∉ g.Gone ∧ (nth g.Edges i).To ∉ g.Gone := fun i hi => by
    have := h3 i hi
    simp only [Graph.fits, Bool.and_eq_true, Bool.not_eq_true', decide_eq_false_iff_not] at this
    exact ⟨(shape_fits hi).1 this.1.1.1, this.1.1.2, this.1.2, this.2⟩
  refine ⟨by omega, by omega, by omega, by omega, by omega, by omega, by omega, by omega, fun w hw => ?_, (pair_adj edgeLt_tr).2 fun i hi => ?_, fun v hv => ?_, (pair_adj (R := fun a b : Int => a < b) (fun a b c => Int.lt_trans)).2 fun i hi => (h2' i hi).2⟩
  · obtain ⟨i, hi, rfl⟩ := mem_nth hw
    obtain ⟨⟨p1, p2, p3, p4, p5, p6⟩, q, -, -⟩ := h4 i hi
    exact ⟨p1, by omega, by omega, by omega, p5, q⟩
  · obtain ⟨⟨p1, p2, p3, p4, p5, p6⟩, -⟩ := h4 i hi
    unfold edgeLt
    exact p6
  · obtain ⟨i, hi, rfl⟩ := mem_nth hv
    have := (h2' i hi).1
    refine ⟨by omega, by omega, fun w hw => ?_⟩
    obtain ⟨j, hj, rfl⟩ := mem_nth hw
    obtain ⟨-, -, q1, q2⟩ := h4 j hj
    exact ⟨fun e => q1 (e ▸ hv), fun e => q2 (e ▸ hv)⟩
theorem RGr.right {g : Graph} {I M O : Nat} (h : RGr g I M O) : g.right = true := by
  simp only [Graph.right, Bool.and_eq_true, List.all_eq_true, List.mem_range]
  have hi := h.i; have hm := h.m; have ho := h.o; have i1 := h.i1; have i2 := h.i2; have m2 := h.m2; have o1 := h.o1; have o2 := h.o2
  refine ⟨⟨sized_iff.2 ?_, ?_⟩, fun j hj => ?_⟩
  · simp only [Graph.shape]; omega
  · simp only [Graph.goneOk, List.all_eq_true, List.mem_range]
    intro j hj
    have h1 := h.gn _ (nth_mem hj)
    have h2 := (pair_adj (R := fun a b : Int => a < b) (fun a b c => Int.lt_trans)).1 h.gs j hj
    simp only [Graph.goneFits, Bool.and_eq_true, Bool.or_eq_true, decide_eq_true_eq]
    exact ⟨⟨by omega, by omega⟩, h2⟩
  · have h1 := h.e _ (nth_mem hj)
    have h2 := (pair_adj edgeLt_tr).1 h.s j hj
    simp only [Graph.fits, Bool.and_eq_true, Bool.not_eq_true', decide_eq_false_iff_not]
    unfold edgeLt at h2
    refine ⟨⟨⟨(shape_fits hj).2 ⟨h1.1, by omega, by omega, by omega, by omega, h2⟩, h1.2.2.2.2.2⟩, fun e => ?_⟩, fun e => ?_⟩
    · exact ((h.gn _ e).2.2 _ (nth_mem hj)).1 rfl
    · exact ((h.gn _ e).2.2 _ (nth_mem hj)).2 rfl
/-! ### picks -/
/-! ### tables -/
theorem tab_set {α : Type} (n : Nat) (f : Nat → α) (k : Nat) (x : α) : ((List.range n).map f).set k x = (List.range n).map fun j => if j = k then x else f j := by
  apply List.ext_getElem (by simp)
  intro i h1 h2
  rw [List.getElem_set, List.getElem_map, List.getElem_map, List.getElem_range]
  by_cases h : k = i
  · rw [if_pos h, if_pos h.symm]
  · rw [if_neg h, if_neg (fun e => h e.symm)]
theorem tab_nth {α : Type} [Inhabited α] {n : Nat} {f : Nat → α} {k : Nat} (h : k < n) : nth ((List.range n).map f) k = f k := by
  rw [nth_get (by simpa using h), List.getElem_map, List.getElem_range]
theorem tab_congr {α : Type} {n : Nat} {f g : Nat → α} (h : ∀ k, k < n → f k = g k) : (List.range n).map f = (List.range n).map g := List.map_congr_left fun k hk => h k (by simpa using hk)
theorem tab_len {α : Type} {n : Nat} {f : Nat → α} : ((List.range n).map f).length = n := by simp
theorem tab_const {α : Type} (n : Nat) (x : α) : List.replicate n x = (List.range n).map fun _ => x := by
  rw [List.map_const', List.length_range]
/-! ### sums over ways -/
/-- a number, or the zero value -/
def isQ (x : Rat) (q : _root_.Rat) : Prop := x = ofR q ∨ (x = ⟨false, [], []⟩ ∧ q = 0)
theorem isQ.ok {x : Rat} {q : _root_.Rat} {n : Nat} (h : isQ x q) (k : szQ n q) : okL n x := by
  rcases h with rfl | ⟨rfl, rfl⟩
  · exact k.ok
  · exact ⟨Wds.nil, Wds.nil, Nat.zero_le _, Nat.zero_le _⟩
end Go.Ab.M
end

section
/-
  PLAIN LAW: WAYS OF ONE EDGE, WHETHER ALL HAVE ONE, AND WHAT IS PRUNED, AS THE PROGRAM TELLS.
  Conditions: none.
-/
namespace Go.Ab.M
open Go.Proofs
set_option linter.unusedVariables false
set_option linter.unusedSimpArgs false

/-! ### ways of one edge -/
/-! ### reaching -/
def sIn (I : Nat) : Nat → Bool := fun v => decide (v < I)
def sOut (IM : Nat) : Nat → Bool := fun v => decide (IM ≤ v)
/-- reached from an input -/
def fr (I : Nat) (l : List PE) : Nat → Bool := foldF (sIn I) l
/-- an output is reached -/
def to_ (IM : Nat) (l : List PE) : Nat → Bool := bkB (sOut IM) l
theorem tab_stepF {N : Nat} {f : Nat → Bool} {e : PE} (hf : e.f < N) (ht : e.t < N) : ((List.range N).map f).set e.t (f e.t || f e.f) = (List.range N).map (stepF f e) := by
  rw [tab_set]
  refine tab_congr fun k hk => ?_
  unfold stepF
  by_cases q : k = e.t
  · rw [if_pos q, if_pos q, q]
  · rw [if_neg q, if_neg q]
theorem tab_stepB {N : Nat} {f : Nat → Bool} {e : PE} (hf : e.f < N) (ht : e.t < N) : ((List.range N).map f).set e.f (f e.f || f e.t) = (List.range N).map (stepB f e) := by
  rw [tab_set]
  refine tab_congr fun k hk => ?_
  unfold stepB
  by_cases q : k = e.f
  · rw [if_pos q, if_pos q, q]
  · rw [if_neg q, if_neg q]
/-! ### are all ways of one edge? -/
/-! ### pruning -/
end Go.Ab.M
end
