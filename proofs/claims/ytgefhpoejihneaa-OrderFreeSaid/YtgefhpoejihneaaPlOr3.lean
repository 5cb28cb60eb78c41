/-
  PLAIN LAW: ORDERS (the document's greedy).
-/
import Derived.Test.YtgefhpoejihneaaPlOr2
namespace Go.Ab.M
set_option linter.unusedVariables false
set_option linter.unusedSimpArgs false

def isGone (g : List Bool) (u : Int) : Bool := nth g u.toNat
/-- the best one so far -/
def BestTo (f : Int → Int) (g : List Bool) (lo hi : Int) (best low : Int) : Prop :=
  (best = -1 ∧ ∀ u, lo ≤ u → u < hi → isGone g u = true) ∨
  (lo ≤ best ∧ best < hi ∧ isGone g best = false ∧ low = f best ∧ ∀ u, lo ≤ u → u < hi → isGone g u = false → f best ≤ f u ∧ (u < best → f best < f u))
theorem BestTo.skip {f : Int → Int} {g : List Bool} {lo v best low : Int} (h : BestTo f g lo v best low) (hg : isGone g v = true ∨ (0 ≤ best ∧ ¬ f v < low)) (h0 : 0 ≤ lo) : BestTo f g lo (v + 1) best low := by
  rcases h with ⟨h1, h2⟩ | ⟨h1, h2, h3, h4, h5⟩
  · refine .inl ⟨h1, fun u hu hv => ?_⟩
    by_cases e : u = v
    · subst e
      rcases hg with hg | hg
      · exact hg
      · omega
    · exact h2 u hu (by omega)
  · refine .inr ⟨h1, by omega, h3, h4, fun u hu hv hn => ?_⟩
    by_cases e : u = v
    · subst e
      rcases hg with hg | hg
      · rw [hg] at hn; cases hn
      · exact ⟨by omega, fun hlt => by omega⟩
    · exact h5 u hu (by omega) hn
theorem BestTo.take {f : Int → Int} {g : List Bool} {lo v best low : Int} (h : BestTo f g lo v best low) (hg : isGone g v = false) (hb : best < 0 ∨ f v < low) (h0 : 0 ≤ lo) (hv : lo ≤ v) : BestTo f g lo (v + 1) v (f v) := by
  refine .inr ⟨hv, by omega, hg, rfl, fun u hu hlt hn => ?_⟩
  by_cases e : u = v
  · subst e; exact ⟨Int.le_refl _, fun h => by omega⟩
  · rcases h with ⟨h1, h2⟩ | ⟨h1, h2, h3, h4, h5⟩
    · have := h2 u hu (by omega)
      rw [this] at hn; cases hn
    · have := h5 u hu (by omega) hn
      exact ⟨by omega, fun _ => by omega⟩

theorem g2_rd {s : Shape} (hr : s.right = true) (hl : s.All.length ≤ 1000) (t : Shape) (a : Bool) {g : List Bool} (hg : g.length = (s.Ins + s.Mids).toNat) (out : List Int) {best low v : Int} (hv : s.Ins ≤ v) (hv2 : v < s.Ins + s.Mids) :
    ref23_Greedy_l_2_rd t a s.Ins s.Mids s.Outs s.All g out best low v = some (.inl (out, if isGone g v = false ∧ (best < 0 ∨ s.tell a v < low) then v else best, if isGone g v = false ∧ (best < 0 ∨ s.tell a v < low) then s.tell a v else low, v + 1)) := by
  have hs := right_sized hr
  have e1 : ref22_Cost (Shape.mk s.Ins s.Mids s.Outs s.All) v = some (s.cost v) := ref22_Cost_eq (s := s) (by omega) v
  have e2 : ref22_Fill (Shape.mk s.Ins s.Mids s.Outs s.All) v = some (s.fill v) := ref22_Fill_eq (s := s) hl v
  have hlt : v.toNat < g.length := by omega
  cases a with
  | false =>
    have e3 : s.tell false v = s.cost v := rfl
    cases hx : nth g v.toNat with
    | true =>
      simp (disch := omega) only [ref23_Greedy_l_2_rd, e1, hx, isGone, Bool.cond_decide, if_t, Option.bind_some, inK_i64, cond_true, cond_false, Bool.not_true, Bool.true_eq_false, false_and, if_false]
    | false =>
      by_cases hb : best < 0
      · simp (disch := omega) only [ref23_Greedy_l_2_rd, e1, hx, isGone, Bool.cond_decide, if_t, Option.bind_some, inK_i64, cond_true, cond_false, Bool.not_false, true_and, hb, true_or, if_true, decide_true, e3]
      · by_cases hc : s.cost v < low
        · simp (disch := omega) only [ref23_Greedy_l_2_rd, e1, hx, isGone, Bool.cond_decide, if_t, Option.bind_some, inK_i64, cond_true, cond_false, Bool.not_false, true_and, hb, hc, or_true, if_true, if_false, e3]
        · simp (disch := omega) only [ref23_Greedy_l_2_rd, e1, hx, isGone, Bool.cond_decide, if_t, Option.bind_some, inK_i64, cond_true, cond_false, Bool.not_false, true_and, hb, hc, or_false, if_true, if_false, e3]
  | true =>
    have e3 : s.tell true v = s.fill v := rfl
    cases hx : nth g v.toNat with
    | true =>
      simp (disch := omega) only [ref23_Greedy_l_2_rd, e1, e2, hx, isGone, Bool.cond_decide, if_t, Option.bind_some, inK_i64, cond_true, cond_false, Bool.not_true, Bool.true_eq_false, false_and, if_false]
    | false =>
      by_cases hb : best < 0
      · simp (disch := omega) only [ref23_Greedy_l_2_rd, e1, e2, hx, isGone, Bool.cond_decide, if_t, Option.bind_some, inK_i64, cond_true, cond_false, Bool.not_false, true_and, hb, true_or, if_true, decide_true, e3]
      · by_cases hc : s.fill v < low
        · simp (disch := omega) only [ref23_Greedy_l_2_rd, e1, e2, hx, isGone, Bool.cond_decide, if_t, Option.bind_some, inK_i64, cond_true, cond_false, Bool.not_false, true_and, hb, hc, or_true, if_true, if_false, e3]
        · simp (disch := omega) only [ref23_Greedy_l_2_rd, e1, e2, hx, isGone, Bool.cond_decide, if_t, Option.bind_some, inK_i64, cond_true, cond_false, Bool.not_false, true_and, hb, hc, or_false, if_true, if_false, e3]
theorem g2_loop {s : Shape} (hr : s.right = true) (hl : s.All.length ≤ 1000) (t : Shape) (a : Bool) {g : List Bool} (hg : g.length = (s.Ins + s.Mids).toNat) (out : List Int) :
    ∃ r, ref23_Greedy_l_2 t a s.Ins s.Mids s.Outs s.All g out (-1) 0 s.Ins = some r ∧ (r.1 = out ∧ ∃ low, BestTo (s.tell a) g s.Ins (s.Ins + s.Mids) r.2 low) := by
  have hs := right_sized hr
  unfold ref23_Greedy_l_2
  refine loop_inv (round := fun σ : List Int × Int × Int × Int => ref23_Greedy_l_2_rd t a s.Ins s.Mids s.Outs s.All g σ.1 σ.2.1 σ.2.2.1 σ.2.2.2) (fun k σ => σ.1 = out ∧ σ.2.2.2 = s.Ins + (k : Int) ∧ BestTo (s.tell a) g s.Ins (s.Ins + (k : Int)) σ.2.1 σ.2.2.1) s.Mids.toNat (out, -1, 0, s.Ins) ⟨rfl, by simp, .inl ⟨rfl, fun u h1 h2 => by simp at h2; omega⟩⟩ ?_ ?_ (by simp only [FU]; omega)
  · rintro k ⟨o, b, l, v⟩ hk ⟨h1, h2, h3⟩
    simp only at h1 h2 h3
    subst h1
    subst h2
    refine ⟨_, g2_rd hr hl t a hg o (v := s.Ins + (k : Int)) (by omega) (by omega), rfl, by simp only; omega, ?_⟩
    simp only
    rw [show s.Ins + ((k + 1 : Nat) : Int) = s.Ins + (k : Int) + 1 by omega]
    cases hx : isGone g (s.Ins + (k : Int)) with
    | true => simpa using h3.skip (.inl hx) (by omega)
    | false =>
      by_cases hc : b < 0 ∨ s.tell a (s.Ins + (k : Int)) < l
      · simp only [true_and, if_pos hc]
        exact h3.take hx hc (by omega) (by omega)
      · simp only [true_and, if_neg hc]
        exact h3.skip (.inr (by omega)) (by omega)
  · rintro ⟨o, b, l, v⟩ ⟨h1, h2, h3⟩
    simp only at h1 h2 h3
    subst h1
    subst h2
    refine ⟨(o, b), ?_, rfl, l, ?_⟩
    · have e : ¬ (s.Ins + ((s.Mids.toNat : Nat) : Int) < s.Ins + s.Mids) := by omega
      simp (disch := omega) only [ref23_Greedy_l_2_rd, inK_i64, cond_true, Bool.cond_decide, if_neg e]
    · rw [show s.Ins + s.Mids = s.Ins + ((s.Mids.toNat : Nat) : Int) by omega]
      exact h3
theorem mem_erase_lt {m : List Int} (hs : m.Pairwise (· < ·)) {i : Nat} (hi : i < m.length) {u : Int} : u ∈ m.eraseIdx i ↔ u ∈ m ∧ u ≠ nth m i := by
  rw [List.mem_eraseIdx_iff_getElem?]
  constructor
  · rintro ⟨j, h1, h2⟩
    obtain ⟨hj, rfl⟩ := List.getElem?_eq_some_iff.1 h2
    refine ⟨List.getElem_mem hj, ?_⟩
    rw [nth_get hi]
    rcases Nat.lt_or_gt_of_ne h1 with e | e
    · have := (List.pairwise_iff_getElem.1 hs) _ _ hj hi e; omega
    · have := (List.pairwise_iff_getElem.1 hs) _ _ hi hj e; omega
  · rintro ⟨h1, h2⟩
    obtain ⟨j, hj, rfl⟩ := List.getElem_of_mem h1
    refine ⟨j, fun e => ?_, by simp [hj]⟩
    subst e
    exact h2 (nth_get hi).symm
theorem gone_set {g : List Bool} {v u : Int} (hv : 0 ≤ v) (hu : 0 ≤ u) (hl : v.toNat < g.length) : isGone (g.set v.toNat true) u = (if u = v then true else isGone g u) := by
  unfold isGone
  rw [nth_set hl]
  by_cases e : u = v
  · subst e; simp
  · rw [if_neg e, if_neg (by omega)]
theorem g1_rd {s : Shape} (hr : s.right = true) (hl : s.All.length ≤ 1000) (t : Shape) (a : Bool) {g : List Bool} (hg : g.length = (s.Ins + s.Mids).toNat) (out : List Int) (ho : (out.length : Int) < s.Mids) {v : Int} (hv : s.isMid v = true)
    (h2 : ref23_Greedy_l_2 t a s.Ins s.Mids s.Outs s.All g out (-1) 0 s.Ins = some (out, v)) :
    ref23_Greedy_l_rd t a out s.Ins s.Mids s.Outs s.All g = some (.inl (out ++ [v], (s.next v).1.Ins, (s.next v).1.Mids, (s.next v).1.Outs, (s.next v).1.All, g.set v.toNat true)) := by
  have hs := right_sized hr
  have hv' : s.Ins ≤ v ∧ v < s.Ins + s.Mids := by simpa [Shape.isMid] using hv
  have hn : ref22_Next (Shape.mk s.Ins s.Mids s.Outs s.All) v = some (s.next v) := ref22_Next_eq (s := s) (by omega) v
  cases out with
  | nil => simp (disch := omega) only [ref23_Greedy_l_rd, h2, hn, Bool.cond_decide, if_t, Option.bind_some, List.isEmpty_nil, cond_true, List.nil_append]
  | cons x xs => simp (disch := omega) only [ref23_Greedy_l_rd, h2, hn, Bool.cond_decide, if_t, Option.bind_some, List.isEmpty_cons, cond_false]
theorem ref_loop (t : Shape) (a : Bool) : ∀ (k fuel : Nat) (s : Shape) (g : List Bool) (out m : List Int), m.length = k → k < fuel → s.right = true → m.Pairwise (· < ·) → (∀ u, u ∈ m ↔ (s.isMid u = true ∧ isGone g u = false)) → g.length = (s.Ins + s.Mids).toNat → s.All.length ≤ 1000 → s.n * s.n ≤ 1000 → ((out.length + k : Nat) : Int) = s.Mids →
    loopN (fun (σ : List Int × Int × Int × Int × List Pair × List Bool) => ref23_Greedy_l_rd t a σ.1 σ.2.1 σ.2.2.1 σ.2.2.2.1 σ.2.2.2.2.1 σ.2.2.2.2.2) fuel (out, s.Ins, s.Mids, s.Outs, s.All, g) = some (out ++ greedyP a k s m)
  | _, 0, _, _, _, _, _, h, _, _, _, _, _, _, _ => by omega
  | 0, fuel + 1, s, g, out, m, e, _, _, _, _, _, _, _, ho => by
    have : ref23_Greedy_l_rd t a out s.Ins s.Mids s.Outs s.All g = some (.inr out) := by
      have e : ¬ ((out.length : Int) < s.Mids) := by omega
      simp only [ref23_Greedy_l_rd, Bool.cond_decide, if_neg e]
    simp only [loopN, this, Option.bind_some, caseS_inr, greedyP, List.append_nil]
  | k + 1, fuel + 1, s, g, out, m, e, hf, hr, hs, hm, hg, hl, hn, ho => by
    have hz := right_sized hr
    obtain ⟨⟨o, v⟩, r1, r2, low, r3⟩ := g2_loop hr hl t a hg out
    simp only at r2 r3
    subst r2
    have hat := atMin_lt (f := s.tell a) (m := m) (by omega)
    have hle := atMin_least (f := s.tell a) (m := m) (by omega) hs
    have hL : Least (s.tell a) m v := by
      rcases r3 with ⟨_, h2⟩ | ⟨h1, h2, h3, h4, h5⟩
      · have h0 := (hm _).1 hle.1
        have h0' : s.Ins ≤ nth m (atMin (s.tell a) m) ∧ nth m (atMin (s.tell a) m) < s.Ins + s.Mids := by simpa [Shape.isMid] using h0.1
        have := h2 _ h0'.1 h0'.2
        rw [h0.2] at this; cases this
      · refine ⟨(hm v).2 ⟨by simp [Shape.isMid, h1, h2], h3⟩, fun u hu => ?_⟩
        have h0 := (hm u).1 hu
        have h0' : s.Ins ≤ u ∧ u < s.Ins + s.Mids := by simpa [Shape.isMid] using h0.1
        exact h5 u h0'.1 h0'.2 h0.2
    have hv := hle.unique hL
    have hmid := ((hm v).1 hL.1).1
    have hmid' : s.Ins ≤ v ∧ v < s.Ins + s.Mids := by simpa [Shape.isMid] using hmid
    have hrd := g1_rd hr hl t a hg o (by omega) hmid r1
    have herase := fun u => mem_erase_lt (m := m) hs hat (u := u)
    have hsub : (m.eraseIdx (atMin (s.tell a) m)).Pairwise (· < ·) := hs.sublist (List.eraseIdx_sublist ..)
    have hlen : (m.eraseIdx (atMin (s.tell a) m)).length = m.length - 1 := by rw [List.length_eraseIdx, if_pos hat]
    simp only [greedyP]
    rw [hv] at herase ⊢
    generalize atMin (s.tell a) m = at' at *
    obtain ⟨n1, n2, n3, n4, n5⟩ := next_n hr hmid
    have ih := ref_loop t a k fuel (s.next v).1 (g.set v.toNat true) (o ++ [v]) (m.eraseIdx at') (by omega) (by omega) (next_right hr hmid) hsub (fun u => by
      rw [herase, hm]
      simp only [Shape.isMid, n2, n3, Bool.and_eq_true, decide_eq_true_eq]
      constructor
      · rintro ⟨⟨h1, h2⟩, h3⟩
        refine ⟨h1, ?_⟩
        rw [gone_set (by omega) (by omega) (by omega), if_neg h3]; exact h2
      · rintro ⟨h1, h2⟩
        rw [gone_set (by omega) (by omega) (by omega)] at h2
        split at h2
        · cases h2
        · rename_i h3; exact ⟨⟨h1, h2⟩, h3⟩) (by rw [List.length_set, n2, n3]; exact hg) (by omega) (by rw [n1]; exact hn) (by rw [List.length_append, List.length_singleton, n3]; omega)
    simp only [loopN, hrd, Option.bind_some, caseS_inl, ih, List.append_assoc, List.singleton_append]
end Go.Ab.M
