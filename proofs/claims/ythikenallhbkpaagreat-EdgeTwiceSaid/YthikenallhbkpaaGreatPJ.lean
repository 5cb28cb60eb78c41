/-
  TEXTS PUT TOGETHER: PlPath, PlReach.
-/
import Derived.Test.YthikenallhbkpaaGreatPF
import Derived.Test.YthikenallhbkpaaGreatTC
section
/-
  WAYS THROUGH A GRAPH: sums over ways by a list of edges, from its front and from its end; sizes of such sums.
  Conditions: none.
-/
namespace Go.Ab.M
open Go.Proofs
set_option linter.unusedVariables false

/-- an edge: where it begins, where it ends, its label -/
structure PE where
  f : Nat
  t : Nat
  w : _root_.Rat
/-- the sum over all ways of some edges, in this order, from v -/
def bk (to : Nat) : List PE → Nat → _root_.Rat
  | [], v => if v = to then 1 else 0
  | e :: r, v => if v = e.f then bk to r v + e.w * bk to r e.t else bk to r v
/-- edges that begin elsewhere, ahead of all others, change nothing -/
theorem bk_ahead (to u : Nat) (r : List PE) : ∀ (p : List PE), (∀ e, e ∈ p → e.f ≠ u) → bk to (p ++ r) u = bk to r u
  | [], _ => rfl
  | e :: p, h => by
    rw [List.cons_append, bk, if_neg (fun k => h e (by simp) k.symm)]
    exact bk_ahead to u r p fun x hx => h x (by simp [hx])
/-- edges in the order of where they begin, each of which goes on -/
def Fwd (l : List PE) : Prop := l.Pairwise (fun a b => a.f ≤ b.f) ∧ ∀ e, e ∈ l → e.f < e.t
/-- what lies behind an edge's end is told by the edges behind it -/
theorem bk_behind {p r : List PE} {e : PE} (h : Fwd (p ++ e :: r)) (to : Nat) : bk to (p ++ e :: r) e.t = bk to r e.t := by
  have h2 := h.2 e (by simp)
  rw [show p ++ e :: r = (p ++ [e]) ++ r by simp]
  refine bk_ahead to e.t r _ fun x hx => ?_
  have hp := (List.pairwise_append.1 h.1).2.2
  rcases List.mem_append.1 hx with q | q
  · have := hp x q e (by simp); omega
  · rw [List.mem_singleton.1 q]; omega
def sumQ : List _root_.Rat → _root_.Rat := fun l => l.foldr (· + ·) 0
theorem sumQ_cons (x : _root_.Rat) (l : List _root_.Rat) : sumQ (x :: l) = x + sumQ l := rfl
theorem sumQ_append : ∀ (l m : List _root_.Rat), sumQ (l ++ m) = sumQ l + sumQ m
  | [], m => by show sumQ m = 0 + sumQ m; grind
  | x :: l, m => by rw [List.cons_append, sumQ_cons, sumQ_cons, sumQ_append l m]; grind
/-- the first edge of a way -/
theorem bk_first {l : List PE} (to v : Nat) : ∀ {r p : List PE}, p ++ r = l → Fwd l → bk to r v = (if v = to then 1 else 0) + sumQ ((r.filter fun e => decide (e.f = v)).map fun e => e.w * bk to l e.t)
  | [], p, h, hf => by
    show (if v = to then (1 : _root_.Rat) else 0) = _ + (0 : _root_.Rat)
    grind
  | e :: r, p, h, hf => by
    have ih := bk_first to v (r := r) (p := p ++ [e]) (by rw [← h]; simp) hf
    have hb : bk to l e.t = bk to r e.t := by rw [← h]; exact bk_behind (by rw [h]; exact hf) to
    by_cases k : v = e.f
    · have hk : decide (e.f = v) = true := decide_eq_true k.symm
      rw [bk, if_pos k, List.filter_cons, if_pos hk, List.map_cons, sumQ_cons, hb, ih]
      grind
    · have hk : ¬ (decide (e.f = v) = true) := by simpa using fun h => k h.symm
      rw [bk, if_neg k, List.filter_cons, if_neg hk, ih]

/-! ### sizes -/
/-- a number over a common denominator -/
def SZ (D M : Nat) (q : _root_.Rat) : Prop := ∃ z : Int, q = mkRat z D ∧ z.natAbs ≤ M
theorem SZ.zero (D M : Nat) : SZ D M 0 := ⟨0, (Rat.zero_mkRat D).symm, Nat.zero_le _⟩
theorem SZ.one : SZ 1 1 1 := ⟨1, rfl, Nat.le_refl _⟩
theorem SZ.sz {D M n : Nat} {q : _root_.Rat} (h : SZ D M q) (hD : D < 4294967296 ^ n) (hM : M < 4294967296 ^ n) (hn : 0 < n) : szQ n q := by
  obtain ⟨x, rfl, h2⟩ := h
  exact mkR_sz (Nat.lt_of_le_of_lt h2 hM) hD hn

end Go.Ab.M
end

section
/-
  REACHING THROUGH A GRAPH: from some vertices onward, and back from some; by a list of edges.
  Conditions: none.
-/
namespace Go.Ab.M
open Go.Proofs
set_option linter.unusedVariables false

end Go.Ab.M
end
