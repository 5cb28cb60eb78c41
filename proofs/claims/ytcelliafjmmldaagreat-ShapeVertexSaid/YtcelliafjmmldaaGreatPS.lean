/-
  TEXTS PUT TOGETHER: PlV9.
-/
import Derived.Test.YtcelliafjmmldaaGreatPR
import Derived.Test.YtcelliafjmmldaaGreatTD
section
/-
  PLAIN LAW: THE PATHS STAY WHAT THEY WERE.
-/
namespace Go.Ab.M
open Go.Proofs Go.Ab
set_option linter.unusedVariables false
set_option linter.unusedSimpArgs false

/-- a sum over numbers -/
def sumN (n : Nat) (F : Nat → _root_.Rat) : _root_.Rat := sumQ ((List.range n).map F)
theorem sumN_succ (n : Nat) (F : Nat → _root_.Rat) : sumN (n + 1) F = sumN n F + F n := by
  unfold sumN
  rw [List.range_succ, List.map_append, sumQ_append]
  show _ + (F n + 0) = _
  grind
theorem sumN_congr {n : Nat} {F G : Nat → _root_.Rat} (h : ∀ k, k < n → F k = G k) : sumN n F = sumN n G := by
  unfold sumN
  rw [List.map_congr_left fun k hk => h k (by simpa using hk)]
theorem sumN_lin (n : Nat) (F G : Nat → _root_.Rat) (c : _root_.Rat) : sumN n (fun k => F k + c * G k) = sumN n F + c * sumN n G := by
  induction n with
  | zero => show (0 : _root_.Rat) = 0 + c * 0; grind
  | succ n ih => rw [sumN_succ, sumN_succ, sumN_succ, ih]; grind
theorem sumN_one (n v : Nat) (a : _root_.Rat) : sumN n (fun k => if k = v then a else 0) = if v < n then a else 0 := by
  induction n with
  | zero => rw [if_neg (by omega)]; rfl
  | succ n ih =>
    rw [sumN_succ, ih]
    by_cases h : v < n
    · rw [if_pos h, if_neg (by omega), if_pos (by omega)]; grind
    · rw [if_neg h]
      by_cases h2 : n = v
      · rw [if_pos h2, if_pos (by omega)]; grind
      · rw [if_neg h2, if_neg (by omega)]; grind
theorem sumQ_filter {α : Type} (p : α → Bool) (F : α → _root_.Rat) : ∀ (l : List α), (∀ x, x ∈ l → p x = false → F x = 0) → sumQ ((l.filter p).map F) = sumQ (l.map F)
  | [], _ => rfl
  | x :: l, h => by
    have ih := sumQ_filter p F l fun y hy => h y (by simp [hy])
    rw [List.filter_cons]
    cases hp : p x with
    | true => rw [if_pos rfl, List.map_cons, List.map_cons, sumQ_cons, sumQ_cons, ih]
    | false => rw [if_neg (by decide), List.map_cons, sumQ_cons, ih, h x (by simp) hp]; grind
theorem outs_map {g : Graph} {I M O : Nat} (h : RGr g I M O) (v : Nat) (φ : Nat → _root_.Rat) :
    (g.outs (v : Int)).map (fun w => qR w.W * φ w.To.toNat) = (rowN (I + M + O) g.T v).map fun k => (g.T v k).getD 0 * φ k := by
  have e2 := (nth_map_eq (outs_to h v)).1
  refine List.ext_getElem (by simpa using e2) fun p h1 h2 => ?_
  rw [List.length_map] at h1 h2
  obtain ⟨b1, b2, b3⟩ := outs_at h h2
  rw [List.getElem_map, List.getElem_map, ← nth_get h1, ← nth_get h2, b3, b2]
  rfl
/-- a way's first edge, by the table -/
theorem bk_row {g : Graph} {I M O : Nat} (h : RGr g I M O) (to v : Nat) : bk to g.E v = (if v = to then 1 else 0) + sumN (I + M + O) fun k => (g.T v k).getD 0 * bk to g.E k := by
  rw [bk_here h.fwd to v, ← outs_pe h v, List.map_map]
  congr 1
  show sumQ ((g.outs (v : Int)).map fun w => qR w.W * bk to g.E w.To.toNat) = _
  rw [outs_map h v]
  unfold sumN rowN
  exact sumQ_filter _ _ _ fun k _ hk => by
    rw [show g.T v k = none by cases hq : g.T v k with
      | none => rfl
      | some q => rw [hq] at hk; cases hk]
    show (0 : _root_.Rat) * _ = 0
    grind
theorem elT_num (t : Tab) {v x : Nat} (hx : x ≠ v) (k : Nat) : (elT t v x k).getD 0 = if k = v then 0 else (t x k).getD 0 + (t x v).getD 0 * (t v k).getD 0 := by
  unfold elT stT
  by_cases hk : k = v
  · rw [if_pos (.inr hk), if_pos hk]; rfl
  · rw [if_neg (by omega), if_neg hk]
    cases h1 : t x v with
    | none => simp only [Option.isSome_none, Bool.false_and, Bool.false_eq_true, if_false, Option.getD_none]; grind
    | some a =>
      cases h2 : t v k with
      | none => simp only [Option.isSome_none, Bool.and_false, Bool.false_eq_true, if_false, Option.getD_none]; grind
      | some b => simp only [h1, h2, Option.isSome_some, Bool.and_self, if_true, Option.getD_some]
/-- THE PATHS STAY WHAT THEY WERE -/
theorem bk_elim {g : Graph} {I M O : Nat} (h : RGr g I M O) {v to : Nat} (hc : g.can (v : Int) = true) (ht : to ≠ v) : ∀ k x, I + M + O ≤ k + x → x ≠ v → bk to (g.elim (I + M + O) v).E x = bk to g.E x := by
  have hr := h.elim hc
  have hT := T_elim h hc
  obtain ⟨c1, c2, c3, c4⟩ := can_iff.1 hc
  have hv : v < I + M + O := by rw [h.i, h.m] at c3; omega
  have hvv : g.T v v = none := by
    cases hq : g.T v v with
    | none => rfl
    | some q => have := T_lt h hq; omega
  intro k
  induction k with
  | zero =>
    intro x hx hxv
    rw [bk_row hr, bk_row h]
    congr 1
    refine sumN_congr fun j hj => ?_
    rw [hT]
    cases hq : elT g.T v x j with
    | none =>
      cases hq2 : g.T x j with
      | none => show (0 : _root_.Rat) * _ = 0 * _; grind
      | some q => have := T_lt h hq2; omega
    | some q => have := elT_lt h hq; omega
  | succ k ih =>
    intro x hx hxv
    rw [bk_row hr, bk_row h]
    congr 1
    have e1 : sumN (I + M + O) (fun j => ((g.elim (I + M + O) v).T x j).getD 0 * bk to (g.elim (I + M + O) v).E j) = sumN (I + M + O) fun j => ((g.T x j).getD 0 * bk to g.E j + (g.T x v).getD 0 * ((g.T v j).getD 0 * bk to g.E j)) + (-1) * (if j = v then (g.T x v).getD 0 * bk to g.E v else 0) := by
      refine sumN_congr fun j hj => ?_
      rw [hT]
      have h2 : (elT g.T v x j).getD 0 * bk to (g.elim (I + M + O) v).E j = (elT g.T v x j).getD 0 * bk to g.E j := by
        cases hq : elT g.T v x j with
        | none => show (0 : _root_.Rat) * _ = 0 * _; grind
        | some q =>
          have h3 := elT_lt h hq
          have h4 := elT_some hq
          rw [ih j (by omega) h4.2.1]
      rw [h2, elT_num _ hxv]
      by_cases hj : j = v
      · subst hj
        rw [if_pos rfl, if_pos rfl, hvv]
        show (0 : _root_.Rat) * _ = _ + _ * (0 * _) + _
        grind
      · rw [if_neg hj, if_neg hj]; grind
    rw [e1, sumN_lin, sumN_lin, sumN_one, if_pos hv]
    have e2 := bk_row h to v
    rw [if_neg (Ne.symm ht)] at e2
    generalize sumN (I + M + O) (fun k => (g.T v k).getD 0 * bk to g.E k) = s at e2 ⊢
    rw [e2]
    grind
theorem elim_entry {g : Graph} {I M O : Nat} (h : RGr g I M O) {v : Nat} (hc : g.can (v : Int) = true) (k : Nat) : entry I M (g.elim (I + M + O) v).E k = entry I M g.E k := by
  obtain ⟨c1, c2, c3, c4⟩ := can_iff.1 hc
  rw [h.i] at c2
  rw [h.i, h.m] at c3
  have i1 := h.i1
  have := Nat.mod_lt k (show 0 < I by omega)
  unfold entry
  generalize k / I = d
  rw [bk_elim h hc (by omega) (I + M + O) _ (by omega) (by omega)]

theorem can_elim {g : Graph} {I M O : Nat} (h : RGr g I M O) {u v : Nat} (hu : g.can (u : Int) = true) : (g.elim (I + M + O) u).can (v : Int) = (g.can (v : Int) && decide (v ≠ u)) := by
  have hr := h.elim hu
  rw [Bool.eq_iff_iff, Bool.and_eq_true, can_iff, can_iff, decide_eq_true_eq]
  have e : (v : Int) ∈ (g.elim (I + M + O) u).Gone ↔ (v : Int) = (u : Int) ∨ (v : Int) ∈ g.Gone := mem_insG
  rw [e]
  have e1 : (g.elim (I + M + O) u).Ins = g.Ins := rfl
  have e2 : (g.elim (I + M + O) u).Mids = g.Mids := rfl
  rw [e1, e2]
  constructor
  · rintro ⟨a, b, c, d⟩
    exact ⟨⟨h.right, b, c, fun x => d (.inr x)⟩, fun x => d (.inl (by rw [x]))⟩
  · rintro ⟨⟨a, b, c, d⟩, f⟩
    exact ⟨hr.right, b, c, fun x => x.elim (fun x => f (by omega)) d⟩
end Go.Ab.M
end
