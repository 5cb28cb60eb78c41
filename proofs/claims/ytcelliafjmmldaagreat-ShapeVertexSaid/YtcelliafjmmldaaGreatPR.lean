/-
  TEXTS PUT TOGETHER: PlV8.
-/
import Derived.Test.YtcelliafjmmldaaGreatPO
import Derived.Test.YtcelliafjmmldaaGreatPN
import Derived.Test.YtcelliafjmmldaaGreatTK
section
/-
  PLAIN LAW: VERTICES THAT GO ONE BEHIND THE OTHER.
-/
namespace Go.Ab.M
open Go.Proofs Go.Ab
set_option linter.unusedVariables false
set_option linter.unusedSimpArgs false

theorem elT_some {t : Tab} {v i k : Nat} {q : _root_.Rat} (h : elT t v i k = some q) : i ≠ v ∧ k ≠ v ∧ ((∃ p, t i k = some p) ∨ ((∃ p, t i v = some p) ∧ ∃ p, t v k = some p)) := by
  unfold elT at h
  by_cases e : i = v ∨ k = v
  · rw [if_pos e] at h; cases h
  · rw [if_neg e] at h
    refine ⟨fun x => e (.inl x), fun x => e (.inr x), ?_⟩
    unfold stT at h
    split at h
    · rename_i hp
      simp only [Bool.and_eq_true, Option.isSome_iff_exists] at hp
      exact .inr hp
    · exact .inl ⟨q, h⟩
theorem elT_lt {g : Graph} {I M O : Nat} (h : RGr g I M O) {v i k : Nat} {q : _root_.Rat} (hq : elT g.T v i k = some q) : i < I + M ∧ I ≤ k ∧ k < I + M + O ∧ i < k := by
  obtain ⟨_, _, ⟨p, hp⟩ | ⟨⟨p, hp⟩, p', hp'⟩⟩ := elT_some hq
  · exact T_lt h hp
  · have h1 := T_lt h hp
    have h2 := T_lt h hp'
    omega
theorem mem_elim {g : Graph} {n v : Nat} {w : Edge} (hw : w ∈ (g.elim n v).Edges) : ∃ i k q, i < n ∧ k < n ∧ elT g.T v i k = some q ∧ w = Edge.mk (i : Int) (k : Int) (ofR q) := by
  obtain ⟨i, k, hi, hk, hq⟩ := mem_grid.1 hw
  rw [Option.map_eq_some_iff] at hq
  obtain ⟨q, hq, rfl⟩ := hq
  exact ⟨i, k, q, hi, hk, hq, rfl⟩
theorem T_gone {g : Graph} {I M O : Nat} (h : RGr g I M O) {x : Int} (hx : x ∈ g.Gone) {i k : Nat} {q : _root_.Rat} (hq : g.T i k = some q) : (i : Int) ≠ x ∧ (k : Int) ≠ x := by
  obtain ⟨w, hw, h1, h2, _⟩ := T_some h hq
  have := (h.gn x hx).2.2 w hw
  rw [h1, h2] at this
  exact this
theorem RGr.elim {g : Graph} {I M O : Nat} (h : RGr g I M O) {v : Nat} (hc : g.can (v : Int) = true) : RGr (g.elim (I + M + O) v) I M O := by
  obtain ⟨c1, c2, c3, c4⟩ := can_iff.1 hc
  rw [h.i] at c2 c3
  rw [h.m] at c3
  refine ⟨h.i, h.m, h.o, h.i1, h.i2, h.m2, h.o1, h.o2, fun w hw => ?_, ?_, fun x hx => ?_, insG_sorted h.gs _⟩
  · obtain ⟨i, k, q, hi, hk, hq, rfl⟩ := mem_elim hw
    have := elT_lt h hq
    refine ⟨?_, ?_, ?_, ?_, ?_, isR_ofR q⟩ <;> simp only <;> omega
  · refine grid_pair (fun i k i' k' x y hx hy hlt => ?_) _
    rw [Option.map_eq_some_iff] at hx hy
    obtain ⟨_, _, rfl⟩ := hx
    obtain ⟨_, _, rfl⟩ := hy
    unfold edgeLt
    simp only
    omega
  · rcases mem_insG.1 hx with rfl | hx
    · refine ⟨c2, c3, fun w hw => ?_⟩
      obtain ⟨i, k, q, hi, hk, hq, rfl⟩ := mem_elim hw
      have := elT_some hq
      simp only
      omega
    · refine ⟨(h.gn x hx).1, (h.gn x hx).2.1, fun w hw => ?_⟩
      obtain ⟨i, k, q, hi, hk, hq, rfl⟩ := mem_elim hw
      obtain ⟨_, _, ⟨p, hp⟩ | ⟨⟨p, hp⟩, p', hp'⟩⟩ := elT_some hq
      · exact T_gone h hx hp
      · exact ⟨(T_gone h hx hp).1, (T_gone h hx hp').2⟩
theorem tabL_none {l : List PE} {i k : Nat} (h : ∀ e, e ∈ l → ¬ (e.f = i ∧ e.t = k)) : tabL l i k = none := by
  cases hq : tabL l i k with
  | none => rfl
  | some q =>
    obtain ⟨e, he, h1, h2, _⟩ := tabL_some hq
    exact absurd ⟨h1, h2⟩ (h e he)
theorem T_elim {g : Graph} {I M O : Nat} (h : RGr g I M O) {v : Nat} (hc : g.can (v : Int) = true) : (g.elim (I + M + O) v).T = elT g.T v := by
  have hr := h.elim hc
  funext i k
  cases hq : elT g.T v i k with
  | some q =>
    have hlt := elT_lt h hq
    have hw : Edge.mk (i : Int) (k : Int) (ofR q) ∈ (g.elim (I + M + O) v).Edges := mem_grid.2 ⟨i, k, by omega, by omega, by rw [hq]; rfl⟩
    have := T_mem hr hw
    simp only [Int.toNat_natCast, qR_ofR] at this
    exact this
  | none =>
    refine tabL_none fun e he hik => ?_
    obtain ⟨w, hw, rfl⟩ := List.mem_map.1 he
    obtain ⟨i', k', q, _, _, hq', rfl⟩ := mem_elim hw
    simp only [Edge.pe, Int.toNat_natCast] at hik
    rw [hik.1, hik.2, hq] at hq'
    cases hq'
theorem Graph.Ok.elim {g : Graph} {I M O s : Nat} (hg : g.Ok s) (h : RGr g I M O) (hs : 0 < s) {v : Nat} (hc : g.can (v : Int) = true) (hn : I + M + O ≤ 300) (hl : g.Gone.length < 100000) : (g.elim (I + M + O) v).Ok (3 * s + 1) := by
  obtain ⟨c1, c2, c3, c4⟩ := can_iff.1 hc
  refine ⟨fun i hi => edgesOf_sz ((T_sz h hg hs).el hs v) _ (nth_mem hi), ?_, ?_⟩
  · refine Nat.le_trans (edgesOf_len _ _) (Nat.le_trans (Nat.mul_le_mul hn hn) (by decide))
  · show (insG g.Gone (v : Int)).length ≤ _
    rw [insG_len h.gs c4]
    omega

/-! ### one behind the other -/
def szK : Nat → Nat
  | 0 => 1
  | k + 1 => 3 * szK k + 1
theorem szK_pos : ∀ k, 0 < szK k
  | 0 => by decide
  | k + 1 => by simp only [szK]; omega
theorem szK_le : ∀ {k : Nat}, k ≤ 5 → szK k ≤ 364 := fun {k} h => match k, h with
  | 0, _ => by decide
  | 1, _ => by decide
  | 2, _ => by decide
  | 3, _ => by decide
  | 4, _ => by decide
  | 5, _ => by decide
/-- a graph of small numbers, some of whose mids are gone -/
structure Inv (g : Graph) (I M O : Nat) : Prop where
  r : RGr g I M O
  m : M ≤ 5
  n : I + M + O ≤ 11
  ok : g.Ok (szK g.Gone.length)
theorem sorted_len : ∀ {l : List Int} {a b : Int}, l.Pairwise (· < ·) → (∀ x, x ∈ l → a ≤ x ∧ x < b) → a ≤ b → (l.length : Int) ≤ b - a
  | [], a, b, _, _, h => by simp only [List.length_nil]; omega
  | x :: l, a, b, hs, hm, h => by
    obtain ⟨h1, h2⟩ := List.pairwise_cons.1 hs
    have hx := hm x (by simp)
    have := sorted_len (a := x + 1) (b := b) h2 (fun y hy => ⟨by have := h1 y hy; omega, (hm y (by simp [hy])).2⟩) (by omega)
    simp only [List.length_cons]
    omega
theorem RGr.gone_len {g : Graph} {I M O : Nat} (h : RGr g I M O) : g.Gone.length ≤ M := by
  have := sorted_len (a := (I : Int)) (b := (I : Int) + M) h.gs (fun x hx => ⟨(h.gn x hx).1, (h.gn x hx).2.1⟩) (by omega)
  omega
theorem Inv.sz {g : Graph} {I M O : Nat} (h : Inv g I M O) : szK g.Gone.length ≤ 364 ∧ g.Gone.length ≤ 5 := by
  have := h.r.gone_len
  have := h.m
  exact ⟨szK_le (by omega), by omega⟩
theorem elimR_can {g : Graph} {I M O v : Nat} (h : RGr g I M O) (hc : g.can (v : Int) = true) : g.elimR (v : Int) = (g.elim (I + M + O) v, g.prods (I + M + O) v, 0) := by
  unfold Graph.elimR
  rw [if_pos h.right, if_pos hc]
  have e : g.Ins.toNat + g.Mids.toNat + g.Outs.toNat = I + M + O := by rw [h.i, h.m, h.o]; simp
  rw [e, Int.toNat_natCast]
theorem elimR_not {g : Graph} {I M O : Nat} (h : RGr g I M O) {v : Int} (hc : g.can v = false) : g.elimR v = (Graph.mk 0 0 0 [] [], 0, 9) := by
  unfold Graph.elimR
  rw [if_pos h.right, if_neg (by rw [hc]; decide)]
theorem can_nat {g : Graph} {I M O : Nat} (h : RGr g I M O) {v : Int} (hc : g.can v = true) : v = ((v.toNat : Nat) : Int) := by
  obtain ⟨c1, c2, c3, c4⟩ := can_iff.1 hc
  rw [h.i] at c2
  rw [Int.toNat_of_nonneg (by omega)]
theorem Inv.elim {g : Graph} {I M O v : Nat} (h : Inv g I M O) (hc : g.can (v : Int) = true) : Inv (g.elim (I + M + O) v) I M O := by
  have hz := h.sz
  refine ⟨h.r.elim hc, h.m, h.n, ?_⟩
  have hl : (g.elim (I + M + O) v).Gone.length = g.Gone.length + 1 := insG_len h.r.gs (can_iff.1 hc).2.2.2
  have := h.n
  rw [hl]
  exact h.ok.elim h.r (szK_pos _) hc (by omega) (by omega)
theorem Inv.step {g : Graph} {I M O : Nat} (h : Inv g I M O) (v : Int) : ((g.elimR v).2.2 = 0 ∧ Inv (g.elimR v).1 I M O ∧ 0 ≤ (g.elimR v).2.1 ∧ (g.elimR v).2.1 ≤ 121) ∨ (g.elimR v).2.2 = 9 := by
  by_cases hc : g.can v = true
  · left
    have e := can_nat h.r hc
    rw [e] at hc ⊢
    rw [elimR_can h.r hc]
    refine ⟨rfl, h.elim hc, ?_, ?_⟩
    · simp only [Graph.prods]
      rw [← Int.natCast_mul]
      omega
    · have l1 := colN_len (I + M + O) g.T v.toNat
      have l2 := rowN_len (I + M + O) g.T v.toNat
      have := h.n
      have := Nat.mul_le_mul (Nat.le_trans l1 this) (Nat.le_trans l2 this)
      simp only [Graph.prods]
      rw [← Int.natCast_mul]
      omega
  · right
    rw [elimR_not h.r (Bool.eq_false_iff.2 hc)]
abbrev AllS := Int × Int × Int × Int × List Edge × List Int
/-- what comes of all -/
def allF : List Int → Int → Graph → Int ⊕ AllS
  | [], sum, g => .inr (sum, g.Ins, g.Mids, g.Outs, g.Edges, g.Gone)
  | v :: r, sum, g => if (g.elimR v).2.2 ≠ 0 then .inl (g.elimR v).2.2 else allF r (sum + (g.elimR v).2.1) (g.elimR v).1
def Graph.allR (g : Graph) (order : List Int) : Graph × Int × Int := match allF order 0 g with
  | .inl e => (Graph.mk 0 0 0 [] [], 0, e)
  | .inr x => (Graph.mk x.2.1 x.2.2.1 x.2.2.2.1 x.2.2.2.2.1 x.2.2.2.2.2, x.1, 0)
theorem nth_drop {l : List Int} {i : Nat} (h : i < l.length) : l.drop i = nth l i :: l.drop (i + 1) := by
  rw [List.drop_eq_getElem_cons h, nth_get h]
theorem all_loop {I M O : Nat} (order : List Int) (hl : order.length ≤ 1000) (rd : Int → Nat → Graph → Option ((Int × Nat × Int × Int × Int × List Edge × List Int) ⊕ (Int ⊕ AllS)))
    (h1 : ∀ sum i g, i < order.length → 0 ≤ sum → sum ≤ 1000 * 121 → Inv g I M O → (g.elimR (nth order i)).2.2 = 9 → rd sum i g = some (.inr (.inl 9)))
    (h2 : ∀ sum i g, i < order.length → 0 ≤ sum → sum ≤ 1000 * 121 → Inv g I M O → (g.elimR (nth order i)).2.2 = 0 → 0 ≤ (g.elimR (nth order i)).2.1 → (g.elimR (nth order i)).2.1 ≤ 121 →
      rd sum i g = some (.inl (sum + (g.elimR (nth order i)).2.1, i + 1, (g.elimR (nth order i)).1.Ins, (g.elimR (nth order i)).1.Mids, (g.elimR (nth order i)).1.Outs, (g.elimR (nth order i)).1.Edges, (g.elimR (nth order i)).1.Gone)))
    (h3 : ∀ sum g, rd sum order.length g = some (.inr (.inr (sum, g.Ins, g.Mids, g.Outs, g.Edges, g.Gone)))) :
    ∀ (k i n : Nat) (sum : Int) (g : Graph), i + k = order.length → k < n → 0 ≤ sum → sum ≤ (i : Int) * 121 → Inv g I M O →
      loopN (fun (σ : Int × Nat × Int × Int × Int × List Edge × List Int) => rd σ.1 σ.2.1 (Graph.mk σ.2.2.1 σ.2.2.2.1 σ.2.2.2.2.1 σ.2.2.2.2.2.1 σ.2.2.2.2.2.2)) n (sum, i, g.Ins, g.Mids, g.Outs, g.Edges, g.Gone) = some (allF (order.drop i) sum g) := by
  intro k
  induction k with
  | zero =>
    intro i n sum g hi hn hs0 hs hg
    obtain rfl : i = order.length := by omega
    cases n with
    | zero => omega
    | succ n =>
      rw [List.drop_length]
      have := h3 sum g
      simp only [loopN]
      rw [show Graph.mk g.Ins g.Mids g.Outs g.Edges g.Gone = g from rfl, this]
      rfl
  | succ k ih =>
    intro i n sum g hi hn hs0 hs hg
    cases n with
    | zero => omega
    | succ n =>
      have hlt : i < order.length := by omega
      rw [nth_drop hlt]
      simp only [loopN, allF]
      rw [show Graph.mk g.Ins g.Mids g.Outs g.Edges g.Gone = g from rfl]
      have hsum : sum ≤ 1000 * 121 := by omega
      rcases hg.step (nth order i) with ⟨e1, e2, e3, e4⟩ | e1
      · rw [h2 sum i g hlt hs0 hsum hg e1 e3 e4, if_neg (by rw [e1]; decide)]
        simp only [Option.bind_some, caseS]
        exact ih (i + 1) n _ _ (by omega) (by omega) (by omega) (by omega) e2
      · rw [h1 sum i g hlt hs0 hsum hg e1, if_pos (by rw [e1]; decide), e1]
        rfl
theorem prog_All {g : Graph} {I M O : Nat} (h : Inv g I M O) {order : List Int} (hl : order.length ≤ 1000) : vertex_All g order = some (g.allR order) := by
  have hz := h.sz
  have a1 := graph_Right_eq (n := szK g.Gone.length) (by omega) h.ok
  rw [h.r.right] at a1
  have he := h.ok.e
  have c1 : slices_Clone_api_Edge_api_Edge g.Edges = some g.Edges := by unfold slices_Clone_api_Edge_api_Edge; rw [bif_t (by omega)]
  have c2 : slices_Clone_int_int g.Gone = some g.Gone := by unfold slices_Clone_int_int; rw [bif_t (by omega)]
  have run := all_loop (I := I) (M := M) (O := O) order hl (fun sum i g => vertex_All_l_rd order sum i g.Ins g.Mids g.Outs g.Edges g.Gone) (fun sum i g hi hs0 hs hg e => by
      have hz := hg.sz
      have := prog_elimR hg.ok (szK_pos _) (by omega) (nth order i) (by omega)
      have e2 : ((g.elimR (nth order i)).2.2 != 0) = true := by rw [e]; rfl
      simp (disch := omega) only [vertex_All_l_rd, Bool.cond_decide, if_t, this, Option.bind_some, e2, cond_true]
      rw [e])
    (fun sum i g hi hs0 hs hg e e3 e4 => by
      have hz := hg.sz
      have := prog_elimR hg.ok (szK_pos _) (by omega) (nth order i) (by omega)
      have e2 : ((g.elimR (nth order i)).2.2 != 0) = false := by rw [e]; rfl
      simp (disch := omega) only [vertex_All_l_rd, Bool.cond_decide, if_t, this, Option.bind_some, e2, cond_false, inK_i64, cond_true])
    (fun sum g => by simp only [vertex_All_l_rd, Int.lt_irrefl, decide_false, cond_false]) order.length 0 FU 0 g (by omega) (by simp only [FU]; omega) (by decide) (by decide) h
  have run2 : vertex_All_l order 0 0 g.Ins g.Mids g.Outs g.Edges g.Gone = some (allF order 0 g) := run
  simp only [vertex_All, a1, c1, c2, run2, Option.bind_some, Bool.not_true, cond_false]
  unfold Graph.allR
  cases allF order 0 g <;> rfl
theorem Inv.same {g : Graph} {I M O : Nat} (h : Inv g I M O) : ref17_Same g g = some true := by
  have hz := h.sz
  exact graph_same (Nat.le_trans h.ok.e (by decide)) (Nat.le_trans h.ok.g (by decide)) (Ok.len h.ok (by omega))
theorem mk_inv {I M O : Nat} {l : List Link} (hl : LinksOk l) (hI1 : 1 ≤ I) (hI : I ≤ 3) (hM : M ≤ 5) (hO1 : 1 ≤ O) (hO : O ≤ 3) : Inv (mkGraph I M O l) I M O := by
  have h := right_gr (mk_right (I := I) (M := M) (O := O) (l := l) hI1 hI hM hO1 hO)
  have e : RGr (mkGraph I M O l) I M O := by
    simp only [mkGraph, Int.toNat_natCast] at h
    exact h
  exact ⟨e, hM, by omega, mk_ok hl hI hM hO⟩
end Go.Ab.M
end
