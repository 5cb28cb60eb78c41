/-
  TEXTS PUT TOGETHER: PlV9.
-/
import Derived.Test.YthikenallhbkpaaGreatPR
import Derived.Test.YthikenallhbkpaaGreatTD
section
/-
  PLAIN LAW: THE PATHS STAY WHAT THEY WERE.
-/
namespace Go.Ab.M
open Go.Proofs Go.Ab
set_option linter.unusedVariables false
set_option linter.unusedSimpArgs false

/-- a sum over numbers -/
def sumN (n : Nat) (F : Nat → _root_.Rat) : _root_.Rat := sumQ ((List.range n).map F)
theorem sumN_succ (n : Nat) (F : Nat → _root_.Rat) : sumN (n + 1) F = sumN n F + F n := by
  unfold sumN
  rw [List.range_succ, List.map_append, sumQ_append]
  show _ + (F n + 0) = _
  grind
theorem sumN_congr {n : Nat} {F G : Nat → _root_.Rat} (h : ∀ k, k < n → F k = G k) : sumN n F = sumN n G := by
  unfold sumN
  rw [List.map_congr_left fun k hk => h k (by simpa using hk)]
theorem sumN_lin (n : Nat) (F G : Nat → _root_.Rat) (c : _root_.Rat) : sumN n (fun k => F k + c * G k) = sumN n F + c * sumN n G := by
  induction n with
  | zero => show (0 : _root_.Rat) = 0 + c * 0; grind
  | succ n ih => rw [sumN_succ, sumN_succ, sumN_succ, ih]; grind
theorem sumN_one (n v : Nat) (a : _root_.Rat) : sumN n (fun k => if k = v then a else 0) = if v < n then a else 0 := by
  induction n with
  | zero => rw [if_neg (by omega)]; rfl
  | succ n ih =>
    rw [sumN_succ, ih]
    by_cases h : v < n
    · rw [if_pos h, if_neg (by omega), if_pos (by omega)]; grind
    · rw [if_neg h]
      by_cases h2 : n = v
      · rw [if_pos h2, if_pos (by omega)]; grind
      · rw [if_neg h2, if_neg (by omega)]; grind
theorem sumQ_filter {α : Type} (p : α → Bool) (F : α → _root_.Rat) : ∀ (l : List α), (∀ x, x ∈ l → p x = false → F x = 0) → sumQ ((l.filter p).map F) = sumQ (l.map F)
  | [], _ => rfl
  | x :: l, h => by
    have ih := sumQ_filter p F l fun y hy => h y (by simp [hy])
    rw [List.filter_cons]
    cases hp : p x with
    | true => rw [if_pos rfl, List.map_cons, List.map_cons, sumQ_cons, sumQ_cons, ih]
    | false => rw [if_neg (by decide), List.map_cons, sumQ_cons, ih, h x (by simp) hp]; grind
theorem outs_map {g : Graph} {I M O : Nat} (h : RGr g I M O) (v : Nat) (φ : Nat → _root_.Rat) :
    (g.outs (v : Int)).map (fun w => qR w.W * φ w.To.toNat) = (rowN (I + M + O) g.T v).map fun k => (g.T v k).getD 0 * φ k := by
  have e2 := (nth_map_eq (outs_to h v)).1
  refine List.ext_getElem (by simpa using e2) fun p h1 h2 => ?_
  rw [List.length_map] at h1 h2
  obtain ⟨b1, b2, b3⟩ := outs_at h h2
  rw [List.getElem_map, List.getElem_map, ← nth_get h1, ← nth_get h2, b3, b2]
  rfl
/-- a way's first edge, by the table -/
theorem bk_row {g : Graph} {I M O : Nat} (h : RGr g I M O) (to v : Nat) : bk to g.E v = (if v = to then 1 else 0) + sumN (I + M + O) fun k => (g.T v k).getD 0 * bk to g.E k := by
  rw [bk_here h.fwd to v, ← outs_pe h v, List.map_map]
  congr 1
  show sumQ ((g.outs (v : Int)).map fun w => qR w.W * bk to g.E w.To.toNat) = _
  rw [outs_map h v]
  unfold sumN rowN
  exact sumQ_filter _ _ _ fun k _ hk => by
    rw [show g.T v k = none by cases hq : g.T v k with
      | none => rfl
      | some q => rw [hq] at hk; cases hk]
    show (0 : _root_.Rat) * _ = 0
    grind
end Go.Ab.M
end
