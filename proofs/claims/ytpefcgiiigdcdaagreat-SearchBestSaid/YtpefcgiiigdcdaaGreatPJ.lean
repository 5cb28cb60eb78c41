/-
  TEXTS PUT TOGETHER: PlPath, PlReach.
-/
import Derived.Test.YtpefcgiiigdcdaaGreatPF
import Derived.Test.YtpefcgiiigdcdaaGreatTC
section
/-
  WAYS THROUGH A GRAPH: sums over ways by a list of edges, from its front and from its end; sizes of such sums.
  Conditions: none.
-/
namespace Go.Ab.M
open Go.Proofs
set_option linter.unusedVariables false

/-- an edge: where it begins, where it ends, its label -/
structure PE where
  f : Nat
  t : Nat
  w : _root_.Rat
theorem list_snoc {α : Type} {P : List α → Prop} (h0 : P []) (h1 : ∀ l x, P l → P (l ++ [x])) (l : List α) : P l := by
  have : ∀ n (l : List α), l.length = n → P l := by
    intro n
    induction n with
    | zero => intro l hl; rw [List.eq_nil_of_length_eq_zero hl]; exact h0
    | succ n ih =>
      intro l hl
      have hne : l ≠ [] := fun h => by rw [h] at hl; cases hl
      rw [← List.dropLast_concat_getLast hne]
      exact h1 _ _ (ih _ (by rw [List.length_dropLast]; omega))
  exact this _ l rfl
/-- edges in the order of where they begin, each of which goes on -/
def Fwd (l : List PE) : Prop := l.Pairwise (fun a b => a.f ≤ b.f) ∧ ∀ e, e ∈ l → e.f < e.t
/-! ### sizes -/
/-- a number over a common denominator -/
def SZ (D M : Nat) (q : _root_.Rat) : Prop := ∃ z : Int, q = mkRat z D ∧ z.natAbs ≤ M
theorem SZ.one : SZ 1 1 1 := ⟨1, rfl, Nat.le_refl _⟩
end Go.Ab.M
end

section
/-
  REACHING THROUGH A GRAPH: from some vertices onward, and back from some; by a list of edges.
  Conditions: none.
-/
namespace Go.Ab.M
open Go.Proofs
set_option linter.unusedVariables false

/-- one edge, onward -/
def stepF (s : Nat → Bool) (e : PE) : Nat → Bool := fun v => if v = e.t then s v || s e.f else s v
def foldF (s : Nat → Bool) (l : List PE) : Nat → Bool := l.foldl stepF s
/-- one edge, back -/
def stepB (s : Nat → Bool) (e : PE) : Nat → Bool := fun v => if v = e.f then s v || s e.t else s v
/-- from where those of s are reached -/
def bkB (s : Nat → Bool) : List PE → Nat → Bool
  | [], v => s v
  | e :: r, v => if v = e.f then bkB s r v || bkB s r e.t else bkB s r v
theorem bkB_step (s : Nat → Bool) (e : PE) (r : List PE) : bkB s (e :: r) = stepB (bkB s r) e := rfl
theorem foldF_snoc (s : Nat → Bool) (l : List PE) (e : PE) : foldF s (l ++ [e]) = stepF (foldF s l) e := by
  unfold foldF
  rw [List.foldl_append]; rfl
theorem bkB_ahead (s : Nat → Bool) (u : Nat) (r : List PE) : ∀ (p : List PE), (∀ e, e ∈ p → e.f ≠ u) → bkB s (p ++ r) u = bkB s r u
  | [], _ => rfl
  | e :: p, h => by
    rw [List.cons_append, bkB, if_neg (fun k => h e (by simp) k.symm)]
    exact bkB_ahead s u r p fun x hx => h x (by simp [hx])
theorem bkB_behind {p r : List PE} {e : PE} (h : Fwd (p ++ e :: r)) (s : Nat → Bool) : bkB s (p ++ e :: r) e.t = bkB s r e.t := by
  have h2 := h.2 e (by simp)
  rw [show p ++ e :: r = (p ++ [e]) ++ r by simp]
  refine bkB_ahead s e.t r _ fun x hx => ?_
  have hp := (List.pairwise_append.1 h.1).2.2
  rcases List.mem_append.1 hx with q | q
  · have := hp x q e (by simp); omega
  · rw [List.mem_singleton.1 q]; omega
theorem bkB_first {l : List PE} (s : Nat → Bool) (v : Nat) : ∀ {r p : List PE}, p ++ r = l → Fwd l → bkB s r v = (s v || (r.filter fun e => decide (e.f = v)).any fun e => bkB s l e.t)
  | [], p, h, hf => by simp [bkB]
  | e :: r, p, h, hf => by
    have ih := bkB_first s v (r := r) (p := p ++ [e]) (by rw [← h]; simp) hf
    have hb : bkB s l e.t = bkB s r e.t := by rw [← h]; exact bkB_behind (by rw [h]; exact hf) s
    by_cases k : v = e.f
    · have hk : decide (e.f = v) = true := decide_eq_true k.symm
      rw [bkB, if_pos k, List.filter_cons, if_pos hk, List.any_cons, hb, ih]
      cases s v <;> cases bkB s r e.t <;> simp
    · have hk : ¬ (decide (e.f = v) = true) := by simpa using fun h => k h.symm
      rw [bkB, if_neg k, List.filter_cons, if_neg hk, ih]
/-- edges that end elsewhere, behind all others, change nothing -/
theorem foldF_behind (s : Nat → Bool) (u : Nat) (p : List PE) : ∀ (r : List PE), (∀ e, e ∈ r → e.t ≠ u) → foldF s (p ++ r) u = foldF s p u := by
  refine list_snoc (P := fun r => (∀ e, e ∈ r → e.t ≠ u) → foldF s (p ++ r) u = foldF s p u) (fun _ => by rw [List.append_nil]) fun r e ih h => ?_
  rw [← List.append_assoc, foldF_snoc, stepF, if_neg (fun k => h e (by simp) k.symm)]
  exact ih fun x hx => h x (by simp [hx])
theorem foldF_ahead {p r : List PE} {e : PE} (h : Fwd (p ++ e :: r)) (s : Nat → Bool) : foldF s (p ++ e :: r) e.f = foldF s p e.f := by
  refine foldF_behind s e.f p _ fun x hx => ?_
  have h2 := h.2 x (List.mem_append.2 (.inr hx))
  rcases List.mem_cons.1 hx with q | q
  · rw [q] at h2 ⊢; omega
  · have := (List.pairwise_cons.1 (List.pairwise_append.1 h.1).2.1).1 x q; omega
theorem foldF_last {l : List PE} (s : Nat → Bool) (v : Nat) : ∀ (p r : List PE), p ++ r = l → Fwd l → foldF s p v = (s v || (p.filter fun e => decide (e.t = v)).any fun e => foldF s l e.f) := by
  intro p
  refine list_snoc (P := fun p => ∀ r, p ++ r = l → Fwd l → foldF s p v = (s v || (p.filter fun e => decide (e.t = v)).any fun e => foldF s l e.f)) (fun _ _ _ => by simp [foldF]) (fun p e ih r h hf => ?_) p
  have h' : p ++ e :: r = l := by rw [← h]; simp
  have ih := ih (e :: r) h' hf
  have hb : foldF s l e.f = foldF s p e.f := by rw [← h']; exact foldF_ahead (by rw [h']; exact hf) s
  rw [foldF_snoc, List.filter_append, List.any_append]
  by_cases k : v = e.t
  · have hk : decide (e.t = v) = true := decide_eq_true k.symm
    rw [stepF, if_pos k, List.filter_cons, if_pos hk, List.filter_nil, List.any_cons, List.any_nil, hb, ih]
    cases s v <;> simp
  · have hk : ¬ (decide (e.t = v) = true) := by simpa using fun h => k h.symm
    rw [stepF, if_neg k, List.filter_cons, if_neg hk, List.filter_nil, List.any_nil, ih]
    simp
end Go.Ab.M
end
