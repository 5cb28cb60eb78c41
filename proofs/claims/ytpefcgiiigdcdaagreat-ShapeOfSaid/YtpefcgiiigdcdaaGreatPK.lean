/-
  TEXTS PUT TOGETHER: PlGr1, PlGr2.
-/
import Derived.Test.YtpefcgiiigdcdaaGreatPJ
import Derived.Test.YtpefcgiiigdcdaaGreatPE
import Derived.Test.YtpefcgiiigdcdaaGreatTI
section
/-
  PLAIN LAW: RIGHT GRAPHS IN NATURAL NUMBERS; WHAT THE PROGRAM PICKS, AND ITS SUMS OVER WAYS.
  Conditions: none.
-/
namespace Go.Ab.M
open Go.Proofs
set_option linter.unusedVariables false
set_option linter.unusedSimpArgs false

def Edge.pe (w : Edge) : PE := ⟨w.From.toNat, w.To.toNat, qR w.W⟩
def Graph.E (g : Graph) : List PE := g.Edges.map Edge.pe
/-- what a right graph is, in natural numbers -/
structure RGr (g : Graph) (I M O : Nat) : Prop where
  i : g.Ins = (I : Int)
  m : g.Mids = (M : Int)
  o : g.Outs = (O : Int)
  i1 : 1 ≤ I
  i2 : I ≤ 40
  m2 : M ≤ 400
  o1 : 1 ≤ O
  o2 : O ≤ 40
  e : ∀ w, w ∈ g.Edges → 0 ≤ w.From ∧ w.From < (I : Int) + M ∧ (I : Int) ≤ w.To ∧ w.To < (I : Int) + M + O ∧ w.From < w.To ∧ isR w.W = true
  s : g.Edges.Pairwise edgeLt
  gn : ∀ v, v ∈ g.Gone → (I : Int) ≤ v ∧ v < (I : Int) + M ∧ ∀ w, w ∈ g.Edges → w.From ≠ v ∧ w.To ≠ v
  gs : g.Gone.Pairwise (· < ·)

theorem pair_adj {α : Type} [Inhabited α] {R : α → α → Prop} (tr : ∀ a b c, R a b → R b c → R a c) {l : List α} : l.Pairwise R ↔ ∀ i, i < l.length → i = 0 ∨ R (nth l (i - 1)) (nth l i) := by
  constructor
  · intro h i hi
    by_cases h0 : i = 0
    · exact .inl h0
    · right
      rw [nth_get (by omega : i - 1 < l.length), nth_get hi]
      exact List.pairwise_iff_getElem.1 h _ _ _ _ (by omega)
  · intro h
    refine List.pairwise_iff_getElem.2 ?_
    have key : ∀ d i (hi : i + d + 1 < l.length), R (l[i]'(by omega)) l[i + d + 1] := by
      intro d
      induction d with
      | zero =>
        intro i hi
        have := h (i + 1) (by omega)
        rcases this with e | e
        · omega
        · rw [nth_get (by omega), nth_get (by omega)] at e
          exact e
      | succ d ih =>
        intro i hi
        have h1 := ih i (by omega)
        have := h (i + (d + 1) + 1) (by omega)
        rcases this with e | e
        · omega
        · rw [nth_get (by omega), nth_get (by omega)] at e
          exact tr _ _ _ h1 e
    intro i j hi hj hij
    have := key (j - i - 1) i (by omega)
    have e : i + (j - i - 1) + 1 = j := by omega
    simp only [e] at this
    exact this
theorem edgeLt_tr (a b c : Edge) (h : edgeLt a b) (k : edgeLt b c) : edgeLt a c := by unfold edgeLt at *; omega
theorem mem_nth {α : Type} [Inhabited α] {l : List α} {x : α} (h : x ∈ l) : ∃ i, i < l.length ∧ nth l i = x := by
  obtain ⟨i, hi, e⟩ := List.getElem_of_mem h
  exact ⟨i, hi, by rw [nth_get hi, e]⟩
theorem RGr.right {g : Graph} {I M O : Nat} (h : RGr g I M O) : g.right = true := by
  simp only [Graph.right, Bool.and_eq_true, List.all_eq_true, List.mem_range]
  have hi := h.i; have hm := h.m; have ho := h.o; have i1 := h.i1; have i2 := h.i2; have m2 := h.m2; have o1 := h.o1; have o2 := h.o2
  refine ⟨⟨sized_iff.2 ?_, ?_⟩, fun j hj => ?_⟩
  · simp only [Graph.shape]; omega
  · simp only [Graph.goneOk, List.all_eq_true, List.mem_range]
    intro j hj
    have h1 := h.gn _ (nth_mem hj)
    have h2 := (pair_adj (R := fun a b : Int => a < b) (fun a b c => Int.lt_trans)).1 h.gs j hj
    simp only [Graph.goneFits, Bool.and_eq_true, Bool.or_eq_true, decide_eq_true_eq]
    exact ⟨⟨by omega, by omega⟩, h2⟩
  · have h1 := h.e _ (nth_mem hj)
    have h2 := (pair_adj edgeLt_tr).1 h.s j hj
    simp only [Graph.fits, Bool.and_eq_true, Bool.not_eq_true', decide_eq_false_iff_not]
    unfold edgeLt at h2
    refine ⟨⟨⟨(shape_fits hj).2 ⟨h1.1, by omega, by omega, by omega, by omega, h2⟩, h1.2.2.2.2.2⟩, fun e => ?_⟩, fun e => ?_⟩
    · exact ((h.gn _ e).2.2 _ (nth_mem hj)).1 rfl
    · exact ((h.gn _ e).2.2 _ (nth_mem hj)).2 rfl
theorem RGr.fwd {g : Graph} {I M O : Nat} (h : RGr g I M O) : Fwd g.E := by
  refine ⟨?_, fun e he => ?_⟩
  · unfold Graph.E
    rw [List.pairwise_map]
    refine h.s.imp fun {a b} hab => ?_
    simp only [Edge.pe, edgeLt] at hab ⊢
    omega
  · obtain ⟨w, hw, rfl⟩ := List.mem_map.1 he
    have := h.e w hw
    simp only [Edge.pe]
    omega
theorem E_len (g : Graph) : g.E.length = g.Edges.length := List.length_map ..
theorem E_nth {g : Graph} {i : Nat} (hi : i < g.Edges.length) : g.E.take (i + 1) = g.E.take i ++ [(nth g.Edges i).pe] := by
  unfold Graph.E
  rw [List.take_add_one, List.getElem?_map, List.getElem?_eq_getElem hi, nth_get hi]
  rfl

/-! ### picks -/
theorem filter_step {α : Type} [Inhabited α] {l : List α} {i : Nat} (hi : i < l.length) (p : α → Bool) : (l.take (i + 1)).filter p = if p (nth l i) = true then (l.take i).filter p ++ [nth l i] else (l.take i).filter p := by
  rw [take_nth hi, List.filter_append, List.filter_cons, List.filter_nil]
  split <;> simp
theorem filt_len {α : Type} {l : List α} (p : α → Bool) (i : Nat) : ((l.take i).filter p).length ≤ l.length := Nat.le_trans (List.length_filter_le _ _) (by rw [List.length_take]; omega)
def Graph.ins (g : Graph) (v : Int) : List Edge := g.Edges.filter fun w => w.To == v
def Graph.outs (g : Graph) (v : Int) : List Edge := g.Edges.filter fun w => w.From == v
/-! ### tables -/
theorem tab_set {α : Type} (n : Nat) (f : Nat → α) (k : Nat) (x : α) : ((List.range n).map f).set k x = (List.range n).map fun j => if j = k then x else f j := by
  apply List.ext_getElem (by simp)
  intro i h1 h2
  rw [List.getElem_set, List.getElem_map, List.getElem_map, List.getElem_range]
  by_cases h : k = i
  · rw [if_pos h, if_pos h.symm]
  · rw [if_neg h, if_neg (fun e => h e.symm)]
theorem tab_nth {α : Type} [Inhabited α] {n : Nat} {f : Nat → α} {k : Nat} (h : k < n) : nth ((List.range n).map f) k = f k := by
  rw [nth_get (by simpa using h), List.getElem_map, List.getElem_range]
theorem tab_congr {α : Type} {n : Nat} {f g : Nat → α} (h : ∀ k, k < n → f k = g k) : (List.range n).map f = (List.range n).map g := List.map_congr_left fun k hk => h k (by simpa using hk)
theorem tab_len {α : Type} {n : Nat} {f : Nat → α} : ((List.range n).map f).length = n := by simp
theorem tab_const {α : Type} (n : Nat) (x : α) : List.replicate n x = (List.range n).map fun _ => x := by
  rw [List.map_const', List.length_range]
/-! ### sums over ways -/
/-- a number, or the zero value -/
def isQ (x : Rat) (q : _root_.Rat) : Prop := x = ofR q ∨ (x = ⟨false, [], []⟩ ∧ q = 0)
theorem isQ.ok {x : Rat} {q : _root_.Rat} {n : Nat} (h : isQ x q) (k : szQ n q) : okL n x := by
  rcases h with rfl | ⟨rfl, rfl⟩
  · exact k.ok
  · exact ⟨Wds.nil, Wds.nil, Nat.zero_le _, Nat.zero_le _⟩
end Go.Ab.M
end

section
/-
  PLAIN LAW: WAYS OF ONE EDGE, WHETHER ALL HAVE ONE, AND WHAT IS PRUNED, AS THE PROGRAM TELLS.
  Conditions: none.
-/
namespace Go.Ab.M
open Go.Proofs
set_option linter.unusedVariables false
set_option linter.unusedSimpArgs false

/-! ### ways of one edge -/
/-! ### reaching -/
def sIn (I : Nat) : Nat → Bool := fun v => decide (v < I)
def sOut (IM : Nat) : Nat → Bool := fun v => decide (IM ≤ v)
/-- reached from an input -/
def fr (I : Nat) (l : List PE) : Nat → Bool := foldF (sIn I) l
/-- an output is reached -/
def to_ (IM : Nat) (l : List PE) : Nat → Bool := bkB (sOut IM) l
theorem tab_stepF {N : Nat} {f : Nat → Bool} {e : PE} (hf : e.f < N) (ht : e.t < N) : ((List.range N).map f).set e.t (f e.t || f e.f) = (List.range N).map (stepF f e) := by
  rw [tab_set]
  refine tab_congr fun k hk => ?_
  unfold stepF
  by_cases q : k = e.t
  · rw [if_pos q, if_pos q, q]
  · rw [if_neg q, if_neg q]
theorem tab_stepB {N : Nat} {f : Nat → Bool} {e : PE} (hf : e.f < N) (ht : e.t < N) : ((List.range N).map f).set e.f (f e.f || f e.t) = (List.range N).map (stepB f e) := by
  rw [tab_set]
  refine tab_congr fun k hk => ?_
  unfold stepB
  by_cases q : k = e.f
  · rw [if_pos q, if_pos q, q]
  · rw [if_neg q, if_neg q]
/-! ### are all ways of one edge? -/
/-! ### pruning -/
theorem Prune_l {g : Graph} {I M O : Nat} (h : RGr g I M O) : graph_Prune_l g 0 (List.replicate (I + M + O) false) (List.replicate (I + M + O) false) = some ((List.range (I + M + O)).map (sIn I), (List.range (I + M + O)).map (sOut (I + M))) := by
  have i2 := h.i2; have m2 := h.m2; have o2 := h.o2; have i1 := h.i1
  have e0 : ∀ f : Nat → Bool, List.replicate (I + M + O) false = (List.range (I + M + O)).map fun k => if k < 0 then f k else false := fun f => by
    rw [tab_const]
    exact tab_congr fun k hk => by rw [if_neg (by omega)]
  have e1 : ∀ f : Nat → Bool, (List.range (I + M + O)).map f = (List.range (I + M + O)).map fun k => if k < I + M + O then f k else false := fun f => tab_congr fun k hk => by rw [if_pos hk]
  have es : ∀ (f : Nat → Bool) i, ((List.range (I + M + O)).map fun k => if k < i then f k else false).set i (f i) = (List.range (I + M + O)).map fun k => if k < i + 1 then f k else false := fun f i => by
    rw [tab_set]
    refine tab_congr fun k hk => ?_
    by_cases q : k = i
    · rw [if_pos q, if_pos (by omega), q]
    · rw [if_neg q]
      by_cases q2 : k < i
      · rw [if_pos q2, if_pos (by omega)]
      · rw [if_neg q2, if_neg (by omega)]
  have := loop_run (round := fun σ : Nat × List Bool × List Bool => graph_Prune_l_rd g σ.1 σ.2.1 σ.2.2)
    (fun i => (i, (List.range (I + M + O)).map (fun k => if k < i then sIn I k else false), (List.range (I + M + O)).map (fun k => if k < i then sOut (I + M) k else false))) (I + M + O)
    (r := ((List.range (I + M + O)).map (fun k => if k < I + M + O then sIn I k else false), (List.range (I + M + O)).map (fun k => if k < I + M + O then sOut (I + M) k else false))) (fun i hi => ?_) ?_ (by simp only [FU]; omega)
  · rw [← e0, ← e0, ← e1, ← e1] at this
    exact this
  · show graph_Prune_l_rd g i ((List.range (I + M + O)).map fun k => if k < i then sIn I k else false) ((List.range (I + M + O)).map fun k => if k < i then sOut (I + M) k else false) = some (.inl (i + 1, (List.range (I + M + O)).map (fun k => if k < i + 1 then sIn I k else false), (List.range (I + M + O)).map (fun k => if k < i + 1 then sOut (I + M) k else false)))
    have hlen : ∀ f : Nat → Bool, ((List.range (I + M + O)).map f).length = I + M + O := fun f => tab_len
    rw [← es, ← es]
    have d1 : decide ((i : Int) < (I : Int)) = sIn I i := by unfold sIn; exact decide_eq_decide.2 (by omega)
    have d2 : decide ((i : Int) ≥ (I : Int) + (M : Int)) = sOut (I + M) i := by unfold sOut; exact decide_eq_decide.2 (by omega)
    simp (disch := omega) only [graph_Prune_l_rd, h.i, h.m, h.o, hlen, d1, d2, Bool.cond_decide, if_t, inK_i64, cond_true, if_true]
  · have : ¬ (((I + M + O : Nat) : Int) < (I : Int) + (M : Int) + (O : Int)) := by omega
    simp only [graph_Prune_l_rd, h.i, h.m, h.o, decide_eq_false this, cond_false]
theorem E_drop {g : Graph} {i : Nat} (hi : i < g.Edges.length) : g.E.drop i = (nth g.Edges i).pe :: g.E.drop (i + 1) := by
  unfold Graph.E
  rw [← List.map_drop, ← List.map_drop, List.drop_eq_getElem_cons hi, nth_get hi]
  rfl
theorem Prune_l2 {g : Graph} {I M O : Nat} (h : RGr g I M O) (hl : g.Edges.length ≤ 100000) : graph_Prune_l_2 g 0 ((List.range (I + M + O)).map (sIn I)) ((List.range (I + M + O)).map (sOut (I + M))) = some ((List.range (I + M + O)).map (fr I g.E), (List.range (I + M + O)).map (to_ (I + M) g.E)) := by
  have i2 := h.i2; have m2 := h.m2; have o2 := h.o2; have i1 := h.i1
  have := loop_run (round := fun σ : Nat × List Bool × List Bool => graph_Prune_l_2_rd g σ.1 σ.2.1 σ.2.2)
    (fun i => (i, (List.range (I + M + O)).map (fr I (g.E.take i)), (List.range (I + M + O)).map (to_ (I + M) (g.E.drop (g.Edges.length - i))))) g.Edges.length
    (r := ((List.range (I + M + O)).map (fr I (g.E.take g.Edges.length)), (List.range (I + M + O)).map (to_ (I + M) (g.E.drop (g.Edges.length - g.Edges.length))))) (fun i hi => ?_) ?_ (by simp only [FU]; omega)
  · rw [← E_len g, List.take_length, Nat.sub_self, List.drop_zero, Nat.sub_zero, List.drop_length] at this
    exact this
  · show graph_Prune_l_2_rd g i ((List.range (I + M + O)).map (fr I (g.E.take i))) ((List.range (I + M + O)).map (to_ (I + M) (g.E.drop (g.Edges.length - i)))) = some (.inl (i + 1, (List.range (I + M + O)).map (fr I (g.E.take (i + 1))), (List.range (I + M + O)).map (to_ (I + M) (g.E.drop (g.Edges.length - (i + 1))))))
    obtain ⟨j, hj⟩ : ∃ j, j = g.Edges.length - (i + 1) := ⟨_, rfl⟩
    have hjl : j < g.Edges.length := by omega
    have e1 : ((((g.Edges.length : Nat) : Int) - 1) - ((i : Nat) : Int)).toNat = j := by omega
    have e2 : g.Edges.length - i = j + 1 := by omega
    rw [← hj, e2]
    have hw := h.e _ (nth_mem hi)
    have hv := h.e _ (nth_mem hjl)
    have hf : (nth g.Edges i).From.toNat < I + M + O := by omega
    have ht : (nth g.Edges i).To.toNat < I + M + O := by omega
    have kf : (nth g.Edges j).From.toNat < I + M + O := by omega
    have kt : (nth g.Edges j).To.toNat < I + M + O := by omega
    have s1 := tab_stepF (N := I + M + O) (f := fr I (g.E.take i)) (e := (nth g.Edges i).pe) hf ht
    have s2 := tab_stepB (N := I + M + O) (f := to_ (I + M) (g.E.drop (j + 1))) (e := (nth g.Edges j).pe) kf kt
    have f1 : stepF (fr I (g.E.take i)) (nth g.Edges i).pe = fr I (g.E.take (i + 1)) := by unfold fr; rw [E_nth hi, foldF_snoc]
    have f2 : stepB (to_ (I + M) (g.E.drop (j + 1))) (nth g.Edges j).pe = to_ (I + M) (g.E.drop j) := by rw [E_drop hjl]; unfold to_; rw [bkB_step]
    rw [f1] at s1
    rw [f2] at s2
    rw [← s1, ← s2]
    have n1 := tab_nth (f := fr I (g.E.take i)) hf
    have n2 := tab_nth (f := fr I (g.E.take i)) ht
    have n3 := tab_nth (f := to_ (I + M) (g.E.drop (j + 1))) kf
    have n4 := tab_nth (f := to_ (I + M) (g.E.drop (j + 1))) kt
    have l1 : ((List.range (I + M + O)).map (fr I (g.E.take i))).length = I + M + O := tab_len
    have l2 : ((List.range (I + M + O)).map (to_ (I + M) (g.E.drop (j + 1)))).length = I + M + O := tab_len
    show _ = some (Sum.inl (i + 1, ((List.range (I + M + O)).map (fr I (g.E.take i))).set (nth g.Edges i).To.toNat (fr I (g.E.take i) (nth g.Edges i).To.toNat || fr I (g.E.take i) (nth g.Edges i).From.toNat),
      ((List.range (I + M + O)).map (to_ (I + M) (g.E.drop (j + 1)))).set (nth g.Edges j).From.toNat (to_ (I + M) (g.E.drop (j + 1)) (nth g.Edges j).From.toNat || to_ (I + M) (g.E.drop (j + 1)) (nth g.Edges j).To.toNat)))
    clear s1 s2 f1 f2
    generalize (List.range (I + M + O)).map (fr I (g.E.take i)) = o at *
    generalize (List.range (I + M + O)).map (to_ (I + M) (g.E.drop (j + 1))) = o1 at *
    generalize fr I (g.E.take i) (nth g.Edges i).From.toNat = a at *
    generalize fr I (g.E.take i) (nth g.Edges i).To.toNat = b at *
    generalize to_ (I + M) (g.E.drop (j + 1)) (nth g.Edges j).From.toNat = c at *
    generalize to_ (I + M) (g.E.drop (j + 1)) (nth g.Edges j).To.toNat = d at *
    cases b <;> cases c <;> simp (disch := omega) only [graph_Prune_l_2_rd, e1, n1, n2, n3, n4, Option.bind_some, Bool.cond_decide, if_t, inK_i64, cond_true, cond_false, Bool.true_or, Bool.false_or]
  · simp only [graph_Prune_l_2_rd, Int.lt_irrefl, decide_false, cond_false]
def keepB (I M : Nat) (l : List PE) (w : Edge) : Bool := fr I l w.From.toNat && to_ (I + M) l w.To.toNat
theorem picked1_eq {g : Graph} {I M O : Nat} (h : RGr g I M O) (hl : g.Edges.length ≤ 100000) : graph_picked_api_Edge ((List.range (I + M + O)).map (fr I g.E)) ((List.range (I + M + O)).map (to_ (I + M) g.E)) g.Edges = some (g.Edges.filter (keepB I M g.E)) := by
  have l1 : ((List.range (I + M + O)).map (fr I g.E)).length = I + M + O := tab_len
  have l2 : ((List.range (I + M + O)).map (to_ (I + M) g.E)).length = I + M + O := tab_len
  have one : ∀ i, i < g.Edges.length → graph_Prune_1 ((List.range (I + M + O)).map (fr I g.E)) ((List.range (I + M + O)).map (to_ (I + M) g.E)) (nth g.Edges i) = some (keepB I M g.E (nth g.Edges i)) := fun i hi => by
    have hw := h.e _ (nth_mem hi)
    have n1 := tab_nth (f := fr I g.E) (show (nth g.Edges i).From.toNat < I + M + O by omega)
    have n2 := tab_nth (f := to_ (I + M) g.E) (show (nth g.Edges i).To.toNat < I + M + O by omega)
    unfold keepB
    generalize (List.range (I + M + O)).map (fr I g.E) = o at *
    generalize (List.range (I + M + O)).map (to_ (I + M) g.E) = o1 at *
    cases q : fr I g.E (nth g.Edges i).From.toNat <;> rw [q] at n1 <;> simp (disch := omega) only [graph_Prune_1, n1, n2, Bool.cond_decide, if_t, cond_true, cond_false, Bool.true_and, Bool.false_and]
  generalize (List.range (I + M + O)).map (fr I g.E) = o at *
  generalize (List.range (I + M + O)).map (to_ (I + M) g.E) = o1 at *
  generalize keepB I M g.E = p at *
  generalize g.Edges = l at *
  have run : graph_picked_api_Edge_l o o1 l [] 0 = some (l.filter p) := by
    have := loop_run (round := fun σ : List Edge × Nat => graph_picked_api_Edge_l_rd o o1 l σ.1 σ.2) (fun i => ((l.take i).filter p, i)) l.length (r := (l.take l.length).filter p) (fun i hi => ?_) ?_ (by simp only [FU]; omega)
    · rw [List.take_length] at this; exact this
    · have hq := filt_len (l := l) p i
      show graph_picked_api_Edge_l_rd o o1 l ((l.take i).filter p) i = some (.inl ((l.take (i + 1)).filter p, i + 1))
      rw [filter_step hi]
      rcases Bool.eq_false_or_eq_true (p (nth l i)) with q | q
      · simp (disch := omega) only [graph_picked_api_Edge_l_rd, one i hi, q, Option.bind_some, Bool.cond_decide, if_t, inK_i64, cond_true, if_true]
      · simp (disch := omega) only [graph_picked_api_Edge_l_rd, one i hi, q, Option.bind_some, Bool.cond_decide, if_t, inK_i64, cond_true, cond_false, Bool.false_eq_true, if_false]
    · simp only [graph_picked_api_Edge_l_rd, Int.lt_irrefl, decide_false, cond_false]
  simp only [graph_picked_api_Edge, run, Option.bind_some]
end Go.Ab.M
end
