/-
  TEXTS PUT TOGETHER: PlGr5.
-/
import Derived.Test.YthikenallhbkpaaGreatPL
import Derived.Test.YthikenallhbkpaaGreatTD
section
/-
  PLAIN LAW: WAYS IN RIGHT GRAPHS: what comes of pruning, of scaling, and where all ways have one edge.
  Conditions: none.
-/
namespace Go.Ab.M
open Go.Proofs
set_option linter.unusedVariables false
set_option linter.unusedSimpArgs false

theorem sumQ_zero {α : Type} {f : α → _root_.Rat} : ∀ {l : List α}, (∀ x, x ∈ l → f x = 0) → sumQ (l.map f) = 0
  | [], _ => rfl
  | x :: l, h => by
    rw [List.map_cons, sumQ_cons, sumQ_zero fun y hy => h y (by simp [hy]), h x (by simp)]
    grind
theorem sumQ_congr {α : Type} {f g : α → _root_.Rat} {l : List α} (h : ∀ x, x ∈ l → f x = g x) : sumQ (l.map f) = sumQ (l.map g) := by
  rw [List.map_congr_left h]
theorem bk_here {l : List PE} (hf : Fwd l) (to v : Nat) : bk to l v = (if v = to then 1 else 0) + sumQ ((l.filter fun e => decide (e.f = v)).map fun e => e.w * bk to l e.t) := bk_first (l := l) to v (r := l) (p := []) rfl hf
theorem bkB_here {l : List PE} (hf : Fwd l) (s : Nat → Bool) (v : Nat) : bkB s l v = (s v || (l.filter fun e => decide (e.f = v)).any fun e => bkB s l e.t) := bkB_first (l := l) s v (r := l) (p := []) rfl hf
theorem foldF_here {l : List PE} (hf : Fwd l) (s : Nat → Bool) (v : Nat) : foldF s l v = (s v || (l.filter fun e => decide (e.t = v)).any fun e => foldF s l e.f) := foldF_last (l := l) s v l [] (List.append_nil _) hf
theorem mem_from {l : List PE} {v : Nat} {e : PE} : e ∈ l.filter (fun e => decide (e.f = v)) ↔ e ∈ l ∧ e.f = v := by rw [List.mem_filter, decide_eq_true_eq]
theorem mem_to {l : List PE} {v : Nat} {e : PE} : e ∈ l.filter (fun e => decide (e.t = v)) ↔ e ∈ l ∧ e.t = v := by rw [List.mem_filter, decide_eq_true_eq]
theorem foldF_on {l : List PE} (hf : Fwd l) {s : Nat → Bool} {e : PE} (he : e ∈ l) (h : foldF s l e.f = true) : foldF s l e.t = true := by
  rw [foldF_here hf, Bool.or_eq_true]
  exact .inr (List.any_eq_true.2 ⟨e, mem_to.2 ⟨he, rfl⟩, h⟩)
theorem bk_out {l : List PE} (to v : Nat) (h : ∀ e, e ∈ l → e.f ≠ v) : bk to l v = if v = to then 1 else 0 := by
  have := bk_ahead to v [] l h
  rw [List.append_nil] at this
  rw [this]; rfl
/-- where no output is reached sums are 0 -/
theorem bk_dead {l : List PE} (hf : Fwd l) {IM N to : Nat} (hto : IM ≤ to) (hb : ∀ e, e ∈ l → e.t < N) : ∀ k v, N ≤ k + v → bkB (sOut IM) l v = false → bk to l v = 0
  | 0, v, hk, h => by
    rw [bk_out to v fun e he q => by have := hb e he; have := hf.2 e he; omega, if_neg]
    intro q
    rw [bkB_here hf, Bool.or_eq_false_iff] at h
    have := h.1
    unfold sOut at this
    rw [decide_eq_false_iff_not] at this
    omega
  | k + 1, v, hk, h => by
    rw [bkB_here hf, Bool.or_eq_false_iff, List.any_eq_false] at h
    have h1 := h.1
    unfold sOut at h1
    rw [decide_eq_false_iff_not] at h1
    rw [bk_here hf, if_neg (by omega), sumQ_zero fun e he => ?_]
    · grind
    · have he' := mem_from.1 he
      have := hf.2 e he'.1
      rw [bk_dead hf hto hb k e.t (by omega) (by simpa using h.2 e he)]
      grind

/-! ### pruning -/
theorem Fwd.filter {l : List PE} (h : Fwd l) (p : PE → Bool) : Fwd (l.filter p) := ⟨h.1.filter p, fun e he => h.2 e (List.mem_filter.1 he).1⟩
/-! ### scaling -/
/-! ### graphs -/
theorem RGr.filter {g : Graph} {I M O : Nat} (h : RGr g I M O) (p : Edge → Bool) : RGr ⟨g.Ins, g.Mids, g.Outs, g.Edges.filter p, g.Gone⟩ I M O :=
  ⟨h.i, h.m, h.o, h.i1, h.i2, h.m2, h.o1, h.o2, fun w hw => h.e w (List.mem_filter.1 hw).1, h.s.filter p, fun v hv => ⟨(h.gn v hv).1, (h.gn v hv).2.1, fun w hw => (h.gn v hv).2.2 w (List.mem_filter.1 hw).1⟩, h.gs⟩
theorem fr_in {I v : Nat} {l : List PE} (hf : Fwd l) (h : v < I) : fr I l v = true := by
  unfold fr
  rw [foldF_here hf]
  unfold sIn
  rw [decide_eq_true h]; rfl
/-- where all ways have one edge sums are those edges' labels -/
theorem comp_entry {g : Graph} {I M O : Nat} (h : RGr g I M O) (hc : g.comp I M = true) {k : Nat} : entry I M g.E k = dent I M g.E k := by
  have i1 := h.i1
  have hk := Nat.mod_lt k i1
  unfold entry dent
  generalize k / I = d
  generalize k % I = c at hk
  rw [bk_here h.fwd, if_neg (by omega), dq_sum, sumQ_congr (g := fun e => e.w * (if e.t = I + M + d then 1 else 0)) fun e he => ?_]
  · congr 1; grind
  · obtain ⟨h1, h2⟩ := mem_from.1 he
    have hp := h.pe e h1
    by_cases q : I + M ≤ e.t
    · rw [bk_out _ _ fun x hx y => by have := h.pe x hx; omega]
    · have hf : foldF (sIn I) g.E e.t = true := foldF_on h.fwd h1 (fr_in h.fwd (by omega))
      rw [comp_iff h, List.all_eq_true] at hc
      have := hc (e.t - I) (List.mem_range.2 (by omega))
      rw [show I + (e.t - I) = e.t by omega] at this
      unfold fr to_ at this
      rw [hf, Bool.true_and, Bool.not_eq_true'] at this
      rw [bk_dead h.fwd (by omega) (fun e he => (h.pe e he).2.2.1) (I + M + O) e.t (by omega) this, if_neg (by omega)]
end Go.Ab.M
namespace Go.Ab.M
set_option linter.unusedVariables false
/-- A GRAPH MADE OF SMALL NUMBERS -/
theorem made_all {x y z : Int} (hx : inRange .u8 x) (hy : inRange .u8 y) (hz : inRange .u8 z) {l : List Link} (hl : LinksOk l) (hlen : l.length ≤ 1000) :
    ∃ I M O : Nat, (1 ≤ I ∧ I ≤ 3 ∧ M ≤ 5 ∧ 1 ≤ O ∧ O ≤ 3 ∧ (I : Int) = 1 + x % 3 ∧ (M : Int) = y % 6 ∧ (O : Int) = 1 + z % 3) ∧ ref17_Made x y z l = some (mkGraph I M O l) ∧ RGr (mkGraph I M O l) I M O ∧ (mkGraph I M O l).Ok 1 ∧ (mkGraph I M O l).Edges.length ≤ 64 ∧ (mkGraph I M O l).Gone = [] := by
  have hx0 : 0 ≤ x := hx.1
  have hy0 : 0 ≤ y := hy.1
  have hz0 : 0 ≤ z := hz.1
  have hm := Made_eq (x := x) (y := y) (z := z) (I := (1 + x % 3).toNat) (M := (y % 6).toNat) (O := (1 + z % 3).toNat) hx0 hy0 hz0 (by omega) (by omega) (by omega) hl hlen
  obtain ⟨I, hI⟩ : ∃ I, I = (1 + x % 3).toNat := ⟨_, rfl⟩
  obtain ⟨M, hM⟩ : ∃ M, M = (y % 6).toNat := ⟨_, rfl⟩
  obtain ⟨O, hO⟩ : ∃ O, O = (1 + z % 3).toNat := ⟨_, rfl⟩
  rw [← hI, ← hM, ← hO] at hm
  have r := mk_right (I := I) (M := M) (O := O) (l := l) (by omega) (by omega) (by omega) (by omega) (by omega)
  have g := right_gr r
  have e : (mkGraph I M O l).Edges.length ≤ 64 := by
    refine Nat.le_trans (mkAll_len I M O l (I + M)) ?_
    exact Nat.mul_le_mul (show I + M ≤ 8 by omega) (show M + O ≤ 8 by omega)
  exact ⟨I, M, O, ⟨by omega, by omega, by omega, by omega, by omega, by omega, by omega, by omega⟩, hm, g, mk_ok hl (by omega) (by omega) (by omega), e, rfl⟩
end Go.Ab.M
end
