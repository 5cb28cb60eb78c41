/-
  THE LAW 'ShapeVertex' HOLDS AT EVERY INPUT.
  Conditions: none.
-/
import Derived.Test.YtcelliafjmmldaaGreatLwShapeVertex
import Derived.Test.YtcelliafjmmldaaGreatPS
import Derived.Test.YtcelliafjmmldaaGreatTL
import Derived.Test.YtcelliafjmmldaaGreatPB
import Derived.Test.YtcelliafjmmldaaGreatWA
section
/-
  PLAIN LAW: AN ORDER OF ALL MIDS; ALL OF THEM GO.
-/
namespace Go.Ab.M
open Go.Proofs Go.Ab
set_option linter.unusedVariables false
set_option linter.unusedSimpArgs false
/-- all mids -/
def midsI (I M : Nat) : List Int := (List.range M).map fun t => ((I + t : Nat) : Int)
theorem mem_midsI {I M : Nat} {x : Int} : x ∈ midsI I M ↔ (I : Int) ≤ x ∧ x < (I : Int) + M := by
  simp only [midsI, List.mem_map, List.mem_range]
  constructor
  · rintro ⟨t, ht, rfl⟩; omega
  · rintro ⟨h1, h2⟩; exact ⟨(x - I).toNat, by omega, by omega⟩
theorem midsI_nd (I M : Nat) : (midsI I M).Nodup := by
  refine List.nodup_iff_pairwise_ne.2 (List.Pairwise.map _ (fun a b (hab : a < b) => ?_) List.pairwise_lt_range)
  omega
theorem Order_eq {g : Graph} {I M O : Nat} (h : RGr g I M O) {keys : List Int} (hk : ∀ x, x ∈ keys → 0 ≤ x ∧ x ≤ 255) : ∃ ord, ref18_Order g keys = some ord ∧ ord.Perm (midsI I M) := by
  have i2 := h.i2; have m2 := h.m2
  have r1 : ref18_Order_l g keys [] g.Ins = some (midsI I M) := by
    unfold ref18_Order_l
    have := loop_run (round := fun σ : List Int × Int => ref18_Order_l_rd g keys σ.1 σ.2) (fun t => ((List.range t).map fun t => ((I + t : Nat) : Int), ((I + t : Nat) : Int))) M (r := (List.range M).map fun t => ((I + t : Nat) : Int)) (fun t ht => ?_) ?_ (by simp only [FU]; omega)
    · rw [h.i]
      exact this
    · show ref18_Order_l_rd g keys _ ((I + t : Nat) : Int) = some (.inl (_, _))
      rw [List.range_succ, List.map_append]
      have hl : ((List.range t).map fun t => ((I + t : Nat) : Int)).length = t := by simp
      generalize (List.range t).map (fun t => ((I + t : Nat) : Int)) = l0 at hl ⊢
      simp (disch := omega) only [ref18_Order_l_rd, h.i, h.m, Bool.cond_decide, if_t, inK_i64, cond_true]
      rw [show ((I + t : Nat) : Int) + 1 = ((I + (t + 1) : Nat) : Int) by omega]
      rfl
    · simp (disch := omega) only [ref18_Order_l_rd, h.i, h.m, Bool.cond_decide, if_f, inK_i64, cond_true]
  have r2 : ∃ ord, ref18_Order_l_2 keys (midsI I M) [] 0 = some ord ∧ ord.Perm (midsI I M) := by
    unfold ref18_Order_l_2
    have ml : (midsI I M).length = M := by simp [midsI]
    refine loop_inv (fun t (σ : List Int × List Int × Nat) => σ.2.2 = t ∧ (σ.2.1 ++ σ.1).Perm (midsI I M) ∧ σ.2.1.length = t) M (midsI I M, [], 0) ⟨rfl, .refl _, rfl⟩ ?_ ?_ (by simp only [FU]; omega)
    · rintro _ ⟨left, out, i⟩ hi ⟨rfl, hp, ho⟩
      have hi : i < M := hi
      have hp : (out ++ left).Perm (midsI I M) := hp
      have ho : out.length = i := ho
      have hlen : out.length + left.length = M := by rw [← List.length_append, hp.length_eq, ml]
      have key : ∀ k, k < left.length → ((out ++ [nth left k]) ++ (([] ++ left.take k) ++ left.drop (k + 1))).Perm (midsI I M) := fun k hk => by
        refine List.Perm.trans ?_ hp
        rw [List.append_assoc]
        refine List.Perm.append_left out ?_
        have e : left = left.take k ++ nth left k :: left.drop (k + 1) := by
          have := List.take_append_drop k left
          rw [List.drop_eq_getElem_cons hk, ← nth_get hk] at this
          exact this.symm
        rw [List.nil_append]
        conv => rhs; rw [e]
        show (nth left k :: (left.take k ++ left.drop (k + 1))).Perm _
        exact List.perm_middle.symm
      by_cases h1 : i < keys.length
      · obtain ⟨k0, k1⟩ := hk _ (nth_mem h1)
        have hm0 := Int.emod_nonneg (nth keys i) (show ((left.length : Nat) : Int) ≠ 0 by omega)
        have hm1 := Int.emod_lt_of_pos (nth keys i) (show (0 : Int) < ((left.length : Nat) : Int) by omega)
        have kk := key (nth keys i % ((left.length : Nat) : Int)).toNat (by omega)
        refine ⟨(([] ++ left.take (nth keys i % ((left.length : Nat) : Int)).toNat) ++ left.drop ((nth keys i % ((left.length : Nat) : Int)) + 1).toNat, out ++ [nth left (nth keys i % ((left.length : Nat) : Int)).toNat], i + 1), ?_, rfl, ?_, by simp [ho]⟩
        · have t1 : (left.take (nth keys i % ((left.length : Nat) : Int)).toNat).length ≤ left.length := by rw [List.length_take]; omega
          have t2 : (left.drop ((nth keys i % ((left.length : Nat) : Int)) + 1).toNat).length ≤ left.length := by rw [List.length_drop]; omega
          simp only [ref18_Order_l_2_rd, List.nil_append]
          generalize left.take (nth keys i % ((left.length : Nat) : Int)).toNat = L1 at *
          generalize left.drop ((nth keys i % ((left.length : Nat) : Int)) + 1).toNat = L2 at *
          generalize nth left (nth keys i % ((left.length : Nat) : Int)).toNat = X at *
          generalize nth keys i % ((left.length : Nat) : Int) = a at *
          simp (disch := omega) only [Bool.cond_decide, if_t, inK_i64, cond_true]
        · show ((out ++ [nth left _]) ++ (([] ++ left.take _) ++ left.drop _)).Perm _
          rw [show ((nth keys i % ((left.length : Nat) : Int)) + 1).toNat = (nth keys i % ((left.length : Nat) : Int)).toNat + 1 by omega]
          exact kk
      · have kk := key 0 (by omega)
        refine ⟨(([] ++ left.take 0) ++ left.drop 1, out ++ [nth left 0], i + 1), ?_, rfl, kk, by simp [ho]⟩
        have t2 : (left.drop 1).length ≤ left.length := by rw [List.length_drop]; omega
        have t1 : (left.take 0).length ≤ left.length := by rw [List.length_take]; omega
        simp only [ref18_Order_l_2_rd, List.nil_append]
        generalize left.drop 1 = L2 at *
        generalize left.take 0 = L1 at *
        simp (disch := omega) only [Bool.cond_decide, if_t, if_f, inK_i64, cond_true]
    · rintro ⟨left, out, i⟩ ⟨hi, hp, ho⟩
      have hi : i = M := hi
      have hp : (out ++ left).Perm (midsI I M) := hp
      have ho : out.length = M := ho
      have hlen : out.length + left.length = M := by rw [← List.length_append, hp.length_eq, ml]
      have hl : left = [] := List.eq_nil_of_length_eq_zero (by omega)
      subst hl
      rw [List.append_nil] at hp
      exact ⟨out, rfl, hp⟩
  obtain ⟨ord, h1, h2⟩ := r2
  exact ⟨ord, by simp only [ref18_Order, r1, h1, Option.bind_some], h2⟩
theorem all_good {I M O : Nat} : ∀ (order : List Int) (sum : Int) (g : Graph), Inv g I M O → order.Nodup → (∀ x, x ∈ order → g.can x = true) →
    ∃ s h, allF order sum g = .inr (s, h.Ins, h.Mids, h.Outs, h.Edges, h.Gone) ∧ Inv h I M O ∧ h.Gone.length = g.Gone.length + order.length ∧ (∀ k, entry I M h.E k = entry I M g.E k) ∧ (∀ x, x ∈ h.Gone ↔ x ∈ g.Gone ∨ x ∈ order)
  | [], sum, g, hg, _, _ => ⟨sum, g, rfl, hg, rfl, fun _ => rfl, fun x => by simp⟩
  | v :: r, sum, g, hg, hn, hc => by
    obtain ⟨n1, n2⟩ := List.nodup_cons.1 hn
    have cv := hc v (by simp)
    have e := can_nat hg.r cv
    rw [e] at cv
    have hi := hg.elim cv
    have hr : ∀ x, x ∈ r → (g.elim (I + M + O) v.toNat).can x = true := fun x hx => by
      have cx := hc x (by simp [hx])
      have ex := can_nat hg.r cx
      rw [ex] at cx ⊢
      rw [can_elim hg.r cv, cx, decide_eq_true]
      · rfl
      · intro e2
        exact n1 (by rw [e, ← e2, ← ex]; exact hx)
    have st := elimR_can hg.r cv
    rw [← e] at st
    obtain ⟨s, h, a1, a2, a3, a4, a5⟩ := all_good r (sum + (g.elimR v).2.1) (g.elim (I + M + O) v.toNat) hi n2 hr
    refine ⟨s, h, ?_, a2, ?_, fun k => by rw [a4 k, elim_entry hg.r cv], fun x => ?_⟩
    · have h0 : (g.elimR v).2.2 = 0 := by rw [st]
      have h1 : (g.elimR v).1 = g.elim (I + M + O) v.toNat := by rw [st]
      simp only [allF, h0, ne_eq, not_true_eq_false, if_false, h1]
      exact a1
    · have : (g.elim (I + M + O) v.toNat).Gone.length = g.Gone.length + 1 := insG_len hg.r.gs (can_iff.1 cv).2.2.2
      rw [a3, this, List.length_cons]
      omega
    · rw [a5, List.mem_cons]
      have : x ∈ (g.elim (I + M + O) v.toNat).Gone ↔ x = ((v.toNat : Nat) : Int) ∨ x ∈ g.Gone := mem_insG
      rw [this, ← e]
      constructor
      · rintro ((a | a) | a)
        · exact .inr (.inl a)
        · exact .inl a
        · exact .inr (.inr a)
      · rintro (a | a | a)
        · exact .inl (.inr a)
        · exact .inl (.inl a)
        · exact .inr a
end Go.Ab.M
end

section
/-
  PLAIN LAW: A GRAPH WITHOUT A VERTEX HAS THE SHAPE WITHOUT IT.
-/
namespace Go.Ab.M
open Go.Proofs Go.Ab
set_option linter.unusedVariables false
set_option linter.unusedSimpArgs false
theorem has_T {g : Graph} {I M O : Nat} (h : RGr g I M O) (a b : Nat) : g.shape.has (a : Int) (b : Int) = (g.T a b).isSome := by
  rw [Bool.eq_iff_iff]
  simp only [Shape.has, decide_eq_true_eq, List.mem_map, Option.isSome_iff_exists]
  constructor
  · rintro ⟨w, hw, e⟩
    have e1 : w.From = (a : Int) := congrArg Pair.From e
    have e2 : w.To = (b : Int) := congrArg Pair.To e
    have := T_mem h hw
    rw [e1, e2, Int.toNat_natCast, Int.toNat_natCast] at this
    exact ⟨_, this⟩
  · rintro ⟨q, hq⟩
    obtain ⟨w, hw, e1, e2, _⟩ := T_some h hq
    exact ⟨w, hw, by simp only [Edge.pair, e1, e2]⟩
theorem elT_isSome (t : Tab) (v i k : Nat) : (elT t v i k).isSome = (decide (i ≠ v) && decide (k ≠ v) && ((t i k).isSome || ((t i v).isSome && (t v k).isSome))) := by
  unfold elT
  by_cases e : i = v ∨ k = v
  · rw [if_pos e]
    rcases e with e | e
    · simp [e]
    · simp [e]
  · rw [if_neg e, decide_eq_true (show i ≠ v from fun x => e (.inl x)), decide_eq_true (show k ≠ v from fun x => e (.inr x))]
    unfold stT
    show (if ((t i v).isSome && (t v k).isSome) = true then some ((t i k).getD 0 + (t i v).getD 0 * (t v k).getD 0) else t i k).isSome = _
    cases hp : ((t i v).isSome && (t v k).isSome) with
    | true => rw [if_pos rfl, Bool.or_true]; rfl
    | false => rw [if_neg (by decide), Bool.or_false]; rfl
theorem row_pairs {t : Tab} {i : Nat} {P : Nat → Bool} : ∀ (l : List Nat), (∀ k, k ∈ l → (t i k).isSome = P k) → (l.filterMap fun k => (t i k).map fun q => Edge.mk (i : Int) (k : Int) (ofR q)).map Edge.pair = (l.filter P).map fun b : Nat => Pair.mk (i : Int) (b : Int)
  | [], _ => rfl
  | k :: l, h => by
    have ih := row_pairs l (fun k hk => h k (by simp [hk]))
    have h0 := h k (by simp)
    cases hq : t i k with
    | none =>
      rw [hq] at h0
      rw [List.filterMap_cons_none (by rw [hq]; rfl), List.filter_cons_of_neg (by rw [← h0]; simp)]
      exact ih
    | some q =>
      rw [hq] at h0
      rw [List.filterMap_cons_some (by rw [hq]; rfl), List.filter_cons_of_pos (by rw [← h0]; rfl), List.map_cons, List.map_cons, ih]
      rfl
theorem edgesOf_pairs {n : Nat} {t : Tab} {P : Nat → Nat → Bool} (h : ∀ i k, i < n → k < n → (t i k).isSome = P i k) : (edgesOf n t).map Edge.pair = pairsTo n P n := by
  have key : ∀ i, i ≤ n → ((List.range i).flatMap fun a => (List.range n).filterMap fun k => (t a k).map fun q => Edge.mk (a : Int) (k : Int) (ofR q)).map Edge.pair = pairsTo n P i := by
    intro i
    induction i with
    | zero => intro _; rfl
    | succ i ih =>
      intro hi
      rw [List.range_succ, List.flatMap_append, List.map_append, ih (by omega), pairsTo_step]
      congr 1
      rw [List.flatMap_cons, List.flatMap_nil, List.append_nil]
      exact row_pairs _ fun k hk => h i k (by omega) (by simpa using hk)
  exact key n (Nat.le_refl _)
theorem shape_n {g : Graph} {I M O : Nat} (h : RGr g I M O) : g.shape.n = I + M + O := by
  simp only [Shape.n, Graph.shape, h.i, h.m, h.o]
  omega
theorem can_mid {g : Graph} {v : Int} (hc : g.can v = true) : g.shape.right = true ∧ g.shape.isMid v = true := by
  obtain ⟨c1, c2, c3, _⟩ := can_iff.1 hc
  exact ⟨right_shape c1, by simp only [Shape.isMid, Graph.shape, decide_eq_true c2, decide_eq_true c3]; rfl⟩
theorem elim_shape {g : Graph} {I M O v : Nat} (h : RGr g I M O) (hc : g.can (v : Int) = true) : (g.elim (I + M + O) v).shape = (g.shape.next (v : Int)).1 := by
  obtain ⟨c1, c2⟩ := can_mid hc
  rw [next_eq c1 c2, shape_n h]
  show Shape.mk g.Ins g.Mids g.Outs ((edgesOf (I + M + O) (elT g.T v)).map Edge.pair) = _
  rw [edgesOf_pairs (P := nextP g.shape v) fun i k _ _ => by rw [elT_isSome, nextP, has_T h, has_T h, has_T h], Int.toNat_natCast]
theorem insOf_shape (g : Graph) (v : Int) : insOf g.shape.All v = (g.ins v).map (·.From) := by
  show insOf (g.Edges.map Edge.pair) v = _
  rw [insOf, List.filter_map, List.map_map]
  rfl
theorem outsOf_shape (g : Graph) (v : Int) : outsOf g.shape.All v = (g.outs v).map (·.To) := by
  show outsOf (g.Edges.map Edge.pair) v = _
  rw [outsOf, List.filter_map, List.map_map]
  rfl
theorem cost_prods {g : Graph} {I M O v : Nat} (h : RGr g I M O) (hc : g.can (v : Int) = true) : g.shape.cost (v : Int) = g.prods (I + M + O) v := by
  obtain ⟨c1, c2⟩ := can_mid hc
  rw [Shape.cost, if_pos ⟨c1, c2⟩, Graph.prods, insOf_shape, outsOf_shape, ins_from h, outs_to h, List.length_map, List.length_map]
theorem steps_cons (s : Shape) (v : Int) (r : List Int) : ∀ k, stepsOf s (v :: r) (k + 1) = ((s.next v).2.1 + (stepsOf (s.next v).1 r k).1, (stepsOf (s.next v).1 r k).2)
  | 0 => by
    show ((0 : Int) + (s.next (nth (v :: r) 0)).2.1, (s.next (nth (v :: r) 0)).1) = ((s.next v).2.1 + 0, (s.next v).1)
    rw [show nth (v :: r) 0 = v from rfl, Int.zero_add, Int.add_zero]
  | k + 1 => by
    have ih := steps_cons s v r k
    have e : nth (v :: r) (k + 1) = nth r k := by simp [nth]
    rw [stepsOf, ih, e]
    show (_, _) = ((s.next v).2.1 + ((stepsOf (s.next v).1 r k).1 + _), _)
    rw [Int.add_assoc]
    rfl
theorem all_steps {I M O : Nat} : ∀ (order : List Int) (sum : Int) (g : Graph), Inv g I M O → order.Nodup → (∀ x, x ∈ order → g.can x = true) → ∀ x, allF order sum g = .inr x → x.1 = sum + (stepsOf g.shape order order.length).1
  | [], sum, g, hg, _, _, x, hx => by
    cases hx
    simp [stepsOf]
  | v :: r, sum, g, hg, hn, hc, x, hx => by
    obtain ⟨n1, n2⟩ := List.nodup_cons.1 hn
    have cv := hc v (by simp)
    have e := can_nat hg.r cv
    rw [e] at cv
    have hi := hg.elim cv
    have hr : ∀ x, x ∈ r → (g.elim (I + M + O) v.toNat).can x = true := fun x hx => by
      have cx := hc x (by simp [hx])
      have ex := can_nat hg.r cx
      rw [ex] at cx ⊢
      rw [can_elim hg.r cv, cx, decide_eq_true]
      · rfl
      · intro e2
        exact n1 (by rw [e, ← e2, ← ex]; exact hx)
    have st := elimR_can hg.r cv
    rw [← e] at st
    have h0 : (g.elimR v).2.2 = 0 := by rw [st]
    have h1 : (g.elimR v).1 = g.elim (I + M + O) v.toNat := by rw [st]
    have h2 : (g.elimR v).2.1 = g.prods (I + M + O) v.toNat := by rw [st]
    simp only [allF, h0, ne_eq, not_true_eq_false, if_false, h1] at hx
    have := all_steps r _ _ hi n2 hr x hx
    rw [this, List.length_cons, steps_cons, h2]
    have nx : g.shape.next v = g.shape.next ((v.toNat : Nat) : Int) := by rw [← e]
    obtain ⟨c1, c2⟩ := can_mid cv
    rw [nx, ← elim_shape hg.r cv, next_eq c1 c2, cost_prods hg.r cv]
    show sum + g.prods (I + M + O) v.toNat + _ = sum + (g.prods (I + M + O) v.toNat + _)
    rw [Int.add_assoc]
theorem split_len (A : List Pair) (v : Int) (hlt : ∀ p, p ∈ A → p.From < p.To) : (A.filter fun p => !(p.To == v) && !(p.From == v)).length + ((A.filter fun p => p.To == v).length + (A.filter fun p => p.From == v).length) = A.length := by
  induction A with
  | nil => rfl
  | cons p A ih =>
    have ih := ih fun q hq => hlt q (by simp [hq])
    have hp := hlt p (by simp)
    by_cases e1 : p.To = v
    · have e2 : ¬ p.From = v := by omega
      have b1 : (p.To == v) = true := by simpa using e1
      have b2 : (p.From == v) = false := by simpa using e2
      simp only [List.filter_cons, b1, b2, Bool.not_true, Bool.not_false, Bool.false_and, Bool.false_eq_true, if_false, if_true, List.length_cons] at ih ⊢
      omega
    · have b1 : (p.To == v) = false := by simpa using e1
      by_cases e2 : p.From = v
      · have b2 : (p.From == v) = true := by simpa using e2
        simp only [List.filter_cons, b1, b2, Bool.not_true, Bool.not_false, Bool.and_false, Bool.false_eq_true, if_false, if_true, List.length_cons] at ih ⊢
        omega
      · have b2 : (p.From == v) = false := by simpa using e2
        simp only [List.filter_cons, b1, b2, Bool.not_false, Bool.and_self, Bool.false_eq_true, if_false, if_true, List.length_cons] at ih ⊢
        omega
/-- what is new, and what stays -/
theorem next_many {g : Graph} {I M O v : Nat} (h : RGr g I M O) (hc : g.can (v : Int) = true) : ((g.shape.next (v : Int)).1.All.length : Int) = g.shape.All.length - ((insOf g.shape.All (v : Int)).length + (outsOf g.shape.All (v : Int)).length) + g.shape.fill (v : Int) := by
  obtain ⟨c1, c2⟩ := can_mid hc
  have hn := next_right c1 c2
  have hf := fill_eq c1 v
  rw [next_eq c1 c2, Int.toNat_natCast] at hn ⊢
  rw [Shape.fill, if_pos c1, if_pos c2, Int.toNat_natCast, hf]
  generalize hN : pairsTo g.shape.n (nextP g.shape v) g.shape.n = N at *
  have hA := pairs_sorted c1
  have hB : N.Pairwise pairLt := pairs_sorted hn
  have ndA : g.shape.All.Nodup := hA.imp fun {p q} hpq e => by subst e; unfold pairLt at hpq; omega
  have ndB : N.Nodup := hB.imp fun {p q} hpq e => by subst e; unfold pairLt at hpq; omega
  have memN : ∀ p, p ∈ N ↔ ∃ a b : Nat, a < g.shape.n ∧ b < g.shape.n ∧ nextP g.shape v a b = true ∧ p = Pair.mk a b := fun p => by rw [← hN]; exact mem_pairsTo
  -- those that were there and stay
  have hperm : (N.filter fun p => g.shape.has p.From p.To).Perm (g.shape.All.filter fun p => !(p.To == (v : Int)) && !(p.From == (v : Int))) := by
    refine (List.perm_ext_iff_of_nodup (ndB.filter _) (ndA.filter _)).2 fun p => ?_
    simp only [List.mem_filter, memN, Bool.and_eq_true, Bool.not_eq_true', beq_eq_false_iff_ne, ne_eq]
    constructor
    · rintro ⟨⟨a, b, ha, hb, hp, rfl⟩, hh⟩
      simp only [nextP, Bool.and_eq_true, decide_eq_true_eq] at hp
      simp only [Shape.has, decide_eq_true_eq] at hh
      exact ⟨hh, fun e => hp.1.2 (by have e : (b : Int) = (v : Int) := e; omega), fun e => hp.1.1 (by have e : (a : Int) = (v : Int) := e; omega)⟩
    · rintro ⟨hp, h1, h2⟩
      have hr := right_pair c1 hp
      have hnn := n_le c1
      refine ⟨⟨p.From.toNat, p.To.toNat, by omega, by omega, ?_, ?_⟩, by simp only [Shape.has, decide_eq_true_eq]; exact hp⟩
      · have e1 : ((p.From.toNat : Nat) : Int) = p.From := by omega
        have e2 : ((p.To.toNat : Nat) : Int) = p.To := by omega
        simp only [nextP, Bool.and_eq_true, decide_eq_true_eq, Bool.or_eq_true, e1, e2]
        exact ⟨⟨by omega, by omega⟩, .inl (by simp only [Shape.has, decide_eq_true_eq]; exact hp)⟩
      · cases p
        simp only at hr ⊢
        congr 1 <;> omega
  have l1 := hperm.length_eq
  have l2 := List.length_eq_countP_add_countP (fun p : Pair => g.shape.has p.From p.To) (l := N)
  rw [← List.countP_eq_length_filter] at l1
  -- those that went
  have l3 : (g.shape.All.filter fun p => !(p.To == (v : Int)) && !(p.From == (v : Int))).length + ((insOf g.shape.All (v : Int)).length + (outsOf g.shape.All (v : Int)).length) = g.shape.All.length := by
    have hlt : ∀ p, p ∈ g.shape.All → p.From < p.To := fun p hp => (right_pair c1 hp).2.2.2.2
    have := split_len g.shape.All (v : Int) hlt
    unfold insOf outsOf
    rw [List.length_map, List.length_map]
    exact this
  have l4 : N.countP (fun p => !g.shape.has p.From p.To) = N.countP (fun a => decide (¬ g.shape.has a.From a.To = true)) := by
    congr 1
    funext p
    cases g.shape.has p.From p.To <;> rfl
  show ((N.length : Nat) : Int) = _
  rw [l4]
  omega
theorem fill_le {s : Shape} (h : s.right = true) {v : Nat} (hm : s.isMid (v : Int) = true) : 0 ≤ s.fill (v : Int) ∧ s.fill (v : Int) ≤ s.cost (v : Int) := by
  rw [Shape.fill, if_pos h, if_pos hm, Shape.cost, if_pos ⟨h, hm⟩, Int.toNat_natCast, Shape.fillN]
  refine ⟨by omega, ?_⟩
  rw [← Int.natCast_mul]
  refine Int.ofNat_le.2 ?_
  generalize insOf s.All (v : Int) = A
  generalize outsOf s.All (v : Int) = B
  induction A with
  | nil => simp
  | cons x A ih =>
    rw [List.map_cons, List.sum_cons, List.length_cons, Nat.add_mul, Nat.one_mul, Nat.add_comm]
    exact Nat.add_le_add ih List.countP_le_length
theorem next_cost0 {s : Shape} (h : s.right = true) {v : Nat} (hm : s.isMid (v : Int) = true) : (s.next (v : Int)).1.cost (v : Int) = 0 := by
  have hr := next_right h hm
  rw [next_eq h hm, Int.toNat_natCast] at hr ⊢
  have : insOf (pairsTo s.n (nextP s v) s.n) (v : Int) = [] := by
    rw [insOf, List.filter_eq_nil_iff.2 fun p hp => ?_]
    · rfl
    · obtain ⟨a, b, _, _, hq, rfl⟩ := mem_pairsTo.1 hp
      unfold nextP at hq
      rw [Bool.and_eq_true, Bool.and_eq_true, decide_eq_true_eq, decide_eq_true_eq] at hq
      have h2 := hq.1.2
      intro e
      have e : (b : Int) = (v : Int) := beq_iff_eq.1 e
      omega
  simp only [Shape.cost]
  split
  · rw [this]; simp
  · rfl
end Go.Ab.M
end

section
/-
  PLAIN LAW: A VERTEX THAT IS ELIMINATED LEAVES THE SHAPE WITHOUT IT, AND COSTS THE SAME.
-/
namespace Go.Ab.M
open Go.Proofs Go.Ab
set_option linter.unusedVariables false
set_option linter.unusedSimpArgs false
theorem midsI_rowOf (I M : Nat) : midsI I M = rowOf (I : Int) M := by
  simp only [midsI, rowOf]
  refine List.map_congr_left fun i _ => ?_
  omega
theorem ShapeVertex_true (x y z : Int) (l : List Link) (p : Int) (keys : List Int) (hx : inRange .u8 x) (hy : inRange .u8 y) (hz : inRange .u8 z) (hl : l.length ≤ maxLen ∧ ∀ z, z ∈ l → inRange .u8 z.From ∧ inRange .u8 z.To ∧ inRange .i8 z.N ∧ inRange .u8 z.D_) (hp : inRange .u8 p) (hk : keys.length ≤ maxLen ∧ ∀ z, z ∈ keys → inRange .u8 z) : law22_ShapeVertex x y z l p keys = some true := by
  by_cases h30 : ((l.length : Nat) : Int) > 30
  · simp only [law22_ShapeVertex, awake22, Option.bind_some, Bool.cond_decide, if_pos h30]
  · obtain ⟨I, M, O, ⟨i1, i2, m2, o1, o2, -⟩, hm, -, -, hE, hgone⟩ := made_all hx hy hz (links_ok hl.2) (by omega)
    have h := mk_inv (links_ok hl.2) i1 i2 m2 o1 o2
    generalize mkGraph I M O l = g at *
    have hI := h.r.i
    have hM := h.r.m
    have ok := h.ok
    have k0 : szK g.Gone.length = 1 := by rw [hgone]; rfl
    rw [k0] at ok
    have hF := shape_From_eq (n := 1) (by decide) ok
    rw [if_pos h.r.right] at hF
    obtain ⟨ord, ho, hpm⟩ := Order_eq h.r (keys := keys) (fun x hx => ⟨(hk.2 x hx).1, (hk.2 x hx).2⟩)
    have hol : ord.length = M := by rw [hpm.length_eq]; simp [midsI]
    have hnd : ord.Nodup := (hpm.nodup_iff).2 (midsI_nd I M)
    have hcan : ∀ x, x ∈ ord → g.can x = true := fun x hx => by
      have := mem_midsI.1 (hpm.mem_iff.1 hx)
      exact can_iff.2 ⟨h.r.right, by rw [hI]; omega, by rw [hI, hM]; omega, by rw [hgone]; simp⟩
    obtain ⟨s, q, a1, a2, a3, a4, a5⟩ := all_good ord 0 g h hnd hcan
    have A := prog_All h (order := ord) (by omega)
    have hR : g.allR ord = (q, s, 0) := by unfold Graph.allR; rw [a1]
    rw [hR] at A
    have hs := all_steps ord 0 g h hnd hcan _ a1
    have hsr := right_shape h.r.right
    have hle : g.shape.All.length ≤ 1000 := by
      show (g.Edges.map Edge.pair).length ≤ 1000
      rw [List.length_map]
      omega
    have hS := shape_All_eq (s := g.shape) (by omega) (o := ord) (by omega)
    have he : eachB g.shape.Ins g.shape.Mids.toNat ord = true := by
      simp only [eachB, decide_eq_true_eq, Graph.shape, hI, hM, Int.toNat_natCast]
      rw [← midsI_rowOf]
      exact hpm
    rw [Shape.all, if_pos hsr, if_pos he] at hS
    have hs : s = (stepsOf g.shape ord ord.length).1 := by rw [Int.zero_add] at hs; exact hs
    rw [← hs] at hS
    have hss : (s != s) = false := by simp
    have h00 : ((0 : Int) != 0) = false := rfl
    by_cases h2 : M = 0
    · have hz : (g.Mids == 0) = true := by rw [hM, h2]; rfl
      have ho0 : ord = [] := List.eq_nil_of_length_eq_zero (by omega)
      have : s = 0 := by rw [hs, ho0]; rfl
      subst this
      simp only [law22_ShapeVertex, awake22, hm, hF, ho, A, hS, hz, h00, Option.bind_some, Bool.cond_decide, if_neg h30, cond_true, cond_false, BEq.rfl]
    · obtain ⟨p0, p1⟩ := hp
      have p1 : p ≤ 255 := p1
      have p0 : 0 ≤ p := p0
      have hpm := Int.emod_nonneg p (show (M : Int) ≠ 0 by omega)
      have hpl := Int.emod_lt_of_pos p (show (0 : Int) < M by omega)
      have m0 : (((M : Nat) : Int) == 0) = false := by rw [beq_eq_false_iff_ne]; omega
      generalize hu : p % (M : Int) = a at *
      have eu : (I : Int) + a = ((I + a.toNat : Nat) : Int) := by omega
      have cu : g.can ((I + a.toNat : Nat) : Int) = true := can_iff.2 ⟨h.r.right, by rw [hI]; omega, by rw [hI, hM]; omega, by rw [hgone]; simp⟩
      generalize hv : I + a.toNat = v at *
      obtain ⟨c1, c2⟩ := can_mid cu
      have hin := h.elim cu
      have gl : (g.elim (I + M + O) v).Gone = [(v : Int)] := by
        show insG g.Gone (v : Int) = _
        rw [hgone]; rfl
      have ok4 := hin.ok
      have k1 : szK (g.elim (I + M + O) v).Gone.length = 4 := by rw [gl]; rfl
      rw [k1] at ok4
      have pe := prog_elim h.r ok (by decide) (by decide) cu (by rw [hgone]; decide)
      have gi := graph_In_eq (n := 1) (by decide) ok (v : Int)
      have go := graph_Out_eq (n := 1) (by decide) ok (v : Int)
      rw [if_pos h.r.right] at gi go
      have hF4 := shape_From_eq (n := 4) (by decide) ok4
      rw [if_pos hin.r.right, elim_shape h.r cu] at hF4
      have N := shape_Next_is (s := g.shape) (by omega) (v : Int)
      have n1 := next_eq c1 c2
      have hcost := cost_prods h.r cu
      have Fl := shape_Fill_eq (s := g.shape) (by omega) (v : Int)
      have C := shape_Cost_eq (s := g.shape) (by omega) (v : Int)
      have nl : (g.shape.next (v : Int)).1.All.length ≤ 2000000 := next_len (by omega) _
      have C2 := shape_Cost_eq (s := (g.shape.next (v : Int)).1) nl (v : Int)
      rw [next_cost0 c1 c2] at C2
      have same := ref22_Same_eq (g.shape.next (v : Int)).1 nl
      have many := next_many h.r cu
      rw [insOf_shape, outsOf_shape] at many
      simp only [List.length_map] at many
      obtain ⟨f0, f1⟩ := fill_le c1 c2
      have i1' := ins_len g (v : Int)
      have i2' := outs_len g (v : Int)
      have e2 : (g.shape.next (v : Int)).2.1 = g.prods (I + M + O) v := by rw [n1]; exact hcost
      have e3 : (g.shape.next (v : Int)).2.2 = 0 := by rw [n1]
      have hfl : g.shape.fill (v : Int) ≤ g.prods (I + M + O) v := by rw [← hcost]; exact f1
      have hpr := prods_in (g := g) (n := I + M + O) (v := v) (by omega)
      have hpb : g.prods (I + M + O) v ≤ 230400 := by
        have l1 := colN_len (I + M + O) g.T v
        have l2 := rowN_len (I + M + O) g.T v
        unfold Graph.prods
        rw [← Int.natCast_mul]
        have : (colN (I + M + O) g.T v).length * (rowN (I + M + O) g.T v).length ≤ 480 * 480 := Nat.mul_le_mul (by omega) (by omega)
        omega
      rw [hcost] at C
      have el : ((g.shape.All.length : Nat) : Int) = ((g.Edges.length : Nat) : Int) := by
        show (((g.Edges.map Edge.pair).length : Nat) : Int) = _
        rw [List.length_map]
      have el2 : (((g.Edges.map Edge.pair).length : Nat) : Int) = ((g.Edges.length : Nat) : Int) := by rw [List.length_map]
      generalize hN : g.shape.next (v : Int) = nx at *
      generalize g.prods (I + M + O) v = pr at *
      generalize hfg : g.shape.fill (v : Int) = fl at *
      have b1 : (((nx.1.All.length : Nat) : Int) == ((g.Edges.length : Nat) : Int) - ((((g.ins (v : Int)).length : Nat) : Int) + (((g.outs (v : Int)).length : Nat) : Int)) + fl) = true := by
        rw [beq_iff_eq]; exact many
      simp (disch := omega) only [law22_ShapeVertex, awake22, hm, hF, ho, A, hS, hM, hI, hu, eu, m0, pe, gi, go, hF4, N, Fl, C, C2, same, e2, e3, h00, hss, el2, b1, Option.bind_some, Bool.cond_decide, if_neg h30, if_t, inK_i64, cond_true, cond_false, BEq.rfl]
end Go.Ab.M
end

section
/-
  ARGUMENTS AS TYPED DATA (printed by jot.py).
-/
namespace Go.Ab.M
open Go.Proofs Go.Proofs.YtcelliafjmmldaaGreat
set_option linter.unusedVariables false
def tyLink : Ty Tryz.prog 106 := Ty.as (Ty.struct Tryz.underlying106 (Flds.cons (Ty.int .u8 Tryz.underlying5) rfl 1 (by kernel_rfl) (Flds.cons (Ty.int .u8 Tryz.underlying5) rfl 1 (by kernel_rfl) (Flds.cons (Ty.int .i8 Tryz.underlying68) rfl 1 (by kernel_rfl) (Flds.last (Ty.int .u8 Tryz.underlying5) rfl (by kernel_rfl))))))
  (fun y => Link.mk y.1 y.2.1 y.2.2.1 y.2.2.2) Link.D (fun y => inRange .u8 y.From ∧ inRange .u8 y.To ∧ inRange .i8 y.N ∧ inRange .u8 y.D_) (fun _ => 0) (fun _ => rfl) (fun _ h => h) (fun _ => Nat.zero_le _)
end Go.Ab.M
end

section
namespace Go.Proofs.YtcelliafjmmldaaGreat.shapeVertex
open Go.ChangeShapes Go.WideShapes Go.ChangeAt Go.RowKit Go.Ab Go.Ab.M
set_option linter.unusedVariables false

theorem own : ownKnob Tryz.prog.godebug = none := by kernel_rfl

theorem core (a : Int) (b : Int) (c : Int) (d : List Link) (e : Int) (f : List Int) (ha : inRange .u8 a) (hb : inRange .u8 b) (hc : inRange .u8 c) (hd : (d.length ≤ maxLen ∧ ∀ z, z ∈ d → tyLink.ok z)) (he : inRange .u8 e) (hf : (f.length ≤ maxLen ∧ ∀ z, z ∈ f → inRange .u8 z)) : ACallsD Tryz.prog 10 0 [NI .u8 a, NI .u8 b, NI .u8 c, SL Link.D d, NI .u8 e, SL (cI .u8) f] [] yes [] := law22_ShapeVertex_ok a b c d e f true (ShapeVertex_true a b c d e f ha hb hc hd he hf)

set_option maxRecDepth 100000 in
theorem contract (H : Type) (enc : TypeId × Value → H) (W : World) (base : Nat) (args : Array Value) (ds gs : List (DataW H)) (before : List MemPlace)
    (hval : ∀ (j : Nat) t v, Tryz.f10.params[j]? = some t → args[j]? = some v → Value.okWide Tryz.prog W .any base t v)
    (hW : DataW.Whole enc Tryz.prog Tryz.f10.params.toList Rows.shapeVertexSpec.vars false W args.toList ds gs before) :
    Calls Tryz.prog 10 args W fun e W' => ∃ v, e = .returned v ∧ Rows.shapeVertexSpec.post enc Tryz.prog Tryz.f10 false true false false W args v W' :=
  law_contract (tb := 4) (ts := [5, 5, 5, 22, 5, 23]) (Tup.one (Ty.int .u8 Tryz.underlying5) (fun n => .v (.int .u8 n)) (fun _ => rfl) (one_int Tryz.underlying5) (Tup.one (Ty.int .u8 Tryz.underlying5) (fun n => .v (.int .u8 n)) (fun _ => rfl) (one_int Tryz.underlying5) (Tup.one (Ty.int .u8 Tryz.underlying5) (fun n => .v (.int .u8 n)) (fun _ => rfl) (one_int Tryz.underlying5) (Tup.one (Ty.slice Tryz.underlying22 tyLink (by decide +kernel) (fun _ => show 4 = _ by kernel_rfl)) (fun l => .sl (l.map Link.D)) (fun _ => rfl) (one_slice Tryz.underlying22) (Tup.one (Ty.int .u8 Tryz.underlying5) (fun n => .v (.int .u8 n)) (fun _ => rfl) (one_int Tryz.underlying5) (Tup.one (Ty.slice Tryz.underlying23 (Ty.int .u8 Tryz.underlying5) (by decide +kernel) (fun _ => show 1 = _ by kernel_rfl)) (fun l => .sl (l.map (cI .u8))) (fun _ => rfl) (one_slice Tryz.underlying23) Tup.nil)))))) (by kernel_rfl) (by kernel_rfl) (by kernel_rfl) (by kernel_rfl) Tryz.underlying4 rfl (fun ds h => by
      match ds, h with
      | [d0, d1, d2, d3, d4, d5], _ => rfl) hval hW
    fun y hy _ => core y.1 y.2.1 y.2.2.1 y.2.2.2.1 y.2.2.2.2.1 y.2.2.2.2.2.1 hy.1 hy.2.1 hy.2.2.1 hy.2.2.2.1 hy.2.2.2.2.1 hy.2.2.2.2.2.1

set_option maxRecDepth 100000 in
theorem lifted (os : Os) (started : os.Started) (H : Type) (enc : TypeId × Value → H) :
    ReturnsInHanded {} Tryz.checked os 10 .any (Rows.shapeVertexSpec.pre6 enc Tryz.prog Tryz.f10 Rows.shapeVertexRow.domain false) (Rows.shapeVertexSpec.post enc Tryz.prog Tryz.f10 false true false false) := by
  refine returnsInHanded_of_change (C := Tryz.checked) own started (by kernel_rfl) Tryz.func10
    (ChangeSpec.witness6 (enc := enc) (C := Tryz.checked) false ⟨#[], #[.int .u8 0, .int .u8 0, .int .u8 0, .slice none 0 0, .int .u8 0, .slice none 0 0], []⟩ 8 (by kernel_rfl) (by kernel_rfl) (by kernel_rfl) (by kernel_rfl)) ?_
  intro W base args ds gs before hval hW _ _
  exact contract H enc W base args ds gs before hval hW

theorem fact0 : (Rows.shapeVertexRow.wf (OpenSpec.ofChange Rows.shapeVertexSpec)) = true := by kernel_rfl
theorem fact1 : (laidOutB Tryz.prog) = true := by kernel_rfl
theorem fact2 : (mapsRowed Tryz.prog) = true := by kernel_rfl
theorem fact3 : (Tryz.f10.params.all (Tryz.prog.readableRec ·)) = true := by kernel_rfl
theorem fact4 : (namedTie Tryz.prog Rows.shapeVertexRow.named Rows.shapeVertexSpec.vars) = true := by kernel_rfl
theorem fact5 : ((Rows.shapeVertexRow.stops == [])) = true := by kernel_rfl
theorem fact6 : ((Tryz.prog.stops == [])) = true := by kernel_rfl
theorem fact7 : ((Rows.shapeVertexRow.knobs == [])) = true := by kernel_rfl
theorem fact8 : ((Tryz.prog.stopKnobs == [])) = true := by kernel_rfl
theorem fact9 : ((Rows.shapeVertexRow.inPlace == Tryz.prog.inPlace 10)) = true := by kernel_rfl
theorem fact10 : ((Rows.shapeVertexRow.unfollowed == Tryz.prog.unfollowed 10)) = true := by kernel_rfl
theorem fact11 : ((Rows.shapeVertexRow.recurses == Tryz.prog.recurses 10)) = true := by kernel_rfl
theorem fact12 : ((Rows.shapeVertexRow.named == Tryz.prog.varsNamed 10)) = true := by kernel_rfl
theorem fact13 : ((Rows.shapeVertexRow.maps == (Tryz.f10.params.toList ++ Rows.shapeVertexSpec.plain.varTypes Tryz.prog).any (Tryz.prog.mapsRec ·))) = true := by kernel_rfl
theorem fact14 : ((Rows.shapeVertexRow.ifaces == (Tryz.f10.params.toList ++ Rows.shapeVertexSpec.plain.varTypes Tryz.prog).any (Tryz.prog.ifacesRec ·))) = true := by kernel_rfl
theorem fact15 : ((Rows.shapeVertexRow.mapsOut == Tryz.prog.mapsAmong Tryz.f10.resultTypes.toList)) = true := by kernel_rfl
theorem fact16 : ((Rows.shapeVertexRow.loops == (Tryz.f10.params.toList ++ Rows.shapeVertexSpec.plain.varTypes Tryz.prog).any (Tryz.prog.loopsFrom ·))) = true := by kernel_rfl
theorem fact17 : ((Rows.shapeVertexRow.wideKeys == (Tryz.f10.params.toList ++ Rows.shapeVertexSpec.plain.varTypes Tryz.prog ++ Tryz.f10.resultTypes.toList).any (Tryz.prog.wideKeysFrom ·))) = true := by kernel_rfl
theorem fact18 : (Rows.shapeVertexSpec.vars.all (Tryz.prog.varReadable ·)) = true := by kernel_rfl
theorem fact19 : (Tryz.f10.resultTypes.all (fun t => Tryz.prog.readableRec t && decide (t < Tryz.prog.types.size))) = true := by kernel_rfl
theorem fact20 : ((Rows.shapeVertexRow.ifacesOut == Tryz.f10.resultTypes.toList.any (Tryz.prog.ifacesRec ·))) = true := by kernel_rfl
theorem fact21 : ((Rows.shapeVertexRow.loopsOut == Tryz.f10.resultTypes.toList.any (Tryz.prog.loopsFrom ·))) = true := by kernel_rfl
theorem fact22 : ((Rows.shapeVertexRow.plainKeys == Tryz.prog.plainKeys)) = true := by kernel_rfl
theorem fact23 : (Rows.shapeVertexRow.shortTexts.isNone) = true := by kernel_rfl
theorem fact24 : (Tryz.prog.stopsHeard) = true := by kernel_rfl
theorem fact25 : (Tryz.prog.mayEnter) = true := by kernel_rfl
theorem fact26 : ((Rows.shapeVertexRow.lifted == Tryz.prog.liftsFinal)) = true := by kernel_rfl
theorem fact27 : ((Tryz.prog.make == some Rows.shapeVertexRow.make)) = true := by kernel_rfl
theorem fact28 : ((Rows.shapeVertexRow.kinds == (if Rows.shapeVertexRow.domain.isEmpty then [] else Tryz.f10.params.toList.map fun t => match Tryz.prog.underlying t with | some (.int k) => some k | _ => none))) = true := by kernel_rfl
theorem fact29 : ((Rows.shapeVertexRow.pinned == Rows.shapeVertexRow.pinnedBy)) = true := by kernel_rfl
theorem fact30 : ((Rows.shapeVertexRow.veiled == (Tryz.f10.params.toList ++ Rows.shapeVertexSpec.plain.varTypes Tryz.prog ++ Tryz.f10.resultTypes.toList).any (Tryz.prog.veiledRec ·))) = true := by kernel_rfl
theorem fact31 : (Rows.shapeVertexRow.veiledFits Tryz.prog Tryz.f10.params.toList (Tryz.f10.params.toList ++ Rows.shapeVertexSpec.plain.varTypes Tryz.prog ++ Tryz.f10.resultTypes.toList)) = true := by kernel_rfl
theorem and_t {a b : Bool} (h : a = true) (k : b = true) : (a && b) = true := by rw [h, k]; rfl
set_option maxRecDepth 100000 in
theorem closed : joinedFacts Tryz.prog 10 Tryz.f10 Rows.shapeVertexSpec Rows.shapeVertexRow = true := by
  unfold joinedFacts
  exact and_t (and_t (and_t (and_t (and_t (and_t (and_t (and_t (and_t (and_t (and_t (and_t (and_t (and_t (and_t (and_t (and_t (and_t (and_t (and_t (and_t (and_t (and_t (and_t (and_t (and_t (and_t (and_t (and_t (and_t (and_t (fact0) fact1) fact2) fact3) fact4) fact5) fact6) fact7) fact8) fact9) fact10) fact11) fact12) fact13) fact14) fact15) fact16) fact17) fact18) fact19) fact20) fact21) fact22) fact23) fact24) fact25) fact26) fact27) fact28) fact29) fact30) fact31

theorem over : Rows.shapeVertexRow.holds Tryz.pinned (OpenSpec.ofChange Rows.shapeVertexSpec) :=
  OpenClaim.holds_of_wide 10 Tryz.f10 rfl rfl rfl rfl rfl rfl rfl ⟨rfl, rfl, rfl, rfl, rfl⟩ rfl rfl rfl rfl rfl (by kernel_rfl) Tryz.func10 closed
    (of_decide_eq_true (by kernel_rfl)) (by unfold Func.isWrapper; first | (rw [if_pos (by decide +kernel)]; kernel_rfl) | (rw [if_neg (by decide +kernel)]; exact ⟨rfl, rfl⟩))
    (fun os started H enc _ => lifted os started H enc)

theorem proved : Rows.ShapeVertexSaid :=
  over
end Go.Proofs.YtcelliafjmmldaaGreat.shapeVertex
end
