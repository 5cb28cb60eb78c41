/-
  THE LAW 'SearchTells' HOLDS AT EVERY INPUT.
  Conditions: none.
-/
import Derived.Test.YtpefcgiiigdcdaaLwSearchTells
import Derived.Test.YtpefcgiiigdcdaaTS
import Derived.Test.YtpefcgiiigdcdaaPB
import Derived.Test.YtpefcgiiigdcdaaPK
import Derived.Test.YtpefcgiiigdcdaaWD
section
/-
  PLAIN LAW: THROUGH WHICH VERTICES A WAY GOES, and what is left costs no less than: by the program.
-/
namespace Go.Ab.M
open Go.Proofs Go.Ab
set_option linter.unusedVariables false
set_option linter.unusedSimpArgs false

def Shape.I (s : Shape) : Nat := s.Ins.toNat
def Shape.IM (s : Shape) : Nat := (s.Ins + s.Mids).toNat
def pePair (p : Pair) : PE := ⟨p.From.toNat, p.To.toNat, 0⟩
def Shape.P (s : Shape) : List PE := s.All.map pePair
/-- does a way go through a vertex? -/
def Shape.thr (s : Shape) (v : Nat) : Bool := fr s.I s.P v && to_ s.IM s.P v
instance : Inhabited PE := ⟨⟨0, 0, 0⟩⟩
theorem nthMap {α β : Type} [Inhabited α] [Inhabited β] (f : α → β) {l : List α} {i : Nat} (h : i < l.length) : nth (l.map f) i = f (nth l i) := by
  rw [nth_get (by rw [List.length_map]; exact h), List.getElem_map, nth_get h]
theorem nthP {s : Shape} {i : Nat} (h : i < s.All.length) : nth s.P i = pePair (nth s.All i) := nthMap pePair h
theorem P_len (s : Shape) : s.P.length = s.All.length := List.length_map _
def tabB (n : Nat) (f : Nat → Bool) : List Bool := (List.range n).map f
theorem tabB_len (n : Nat) (f : Nat → Bool) : (tabB n f).length = n := tab_len
theorem tabB_nth {n : Nat} {f : Nat → Bool} {k : Nat} (h : k < n) : nth (tabB n f) k = f k := tab_nth h
theorem tabB_congr {n : Nat} {f g : Nat → Bool} (h : ∀ k, k < n → f k = g k) : tabB n f = tabB n g := tab_congr h
theorem tabB_set (n : Nat) (f : Nat → Bool) (k : Nat) (x : Bool) : (tabB n f).set k x = tabB n fun j => if j = k then x else f j := tab_set n f k x
theorem thr_l {s : Shape} (h : s.right = true) : search_through_l s 0 (List.replicate s.n false) (List.replicate s.n false) = some (tabB s.n (sIn s.I), tabB s.n (sOut s.IM)) := by
  obtain ⟨n1, n2⟩ := n_le h
  have hz := right_sized h
  have eI : (s.I : Int) = s.Ins := by unfold Shape.I; omega
  have eM : (s.IM : Int) = s.Ins + s.Mids := by unfold Shape.IM; omega
  have e0 : List.replicate s.n false = tabB s.n (fun v => decide (v < 0) && sIn s.I v) := by
    rw [tab_const]; exact tab_congr fun k _ => by rw [decide_eq_false (by omega)]; rfl
  have e1 : List.replicate s.n false = tabB s.n (fun v => decide (v < 0) && sOut s.IM v) := by
    rw [tab_const]; exact tab_congr fun k _ => by rw [decide_eq_false (by omega)]; rfl
  have e2 : (0, List.replicate s.n false, List.replicate s.n false) = (fun i : Nat => (i, tabB s.n (fun v => decide (v < i) && sIn s.I v), tabB s.n (fun v => decide (v < i) && sOut s.IM v))) 0 := by
    dsimp only
    rw [← e0, ← e1]
  unfold search_through_l
  rw [e2]
  refine loop_run (round := fun σ : Nat × List Bool × List Bool => search_through_l_rd s σ.1 σ.2.1 σ.2.2) (fun i : Nat => (i, tabB s.n (fun v => decide (v < i) && sIn s.I v), tabB s.n (fun v => decide (v < i) && sOut s.IM v))) s.n (fun i hi => ?_) ?_ (by simp only [FU]; omega)
  · have g1 : ((i : Nat) : Int) < s.Ins + s.Mids + s.Outs := by omega
    have g2 : i < (tabB s.n (fun v => decide (v < i) && sIn s.I v)).length := by rw [tabB_len]; exact hi
    have g3 : i < (tabB s.n (fun v => decide (v < i) && sOut s.IM v)).length := by rw [tabB_len]; exact hi
    have s1 : (tabB s.n (fun v => decide (v < i) && sIn s.I v)).set i (decide (((i : Nat) : Int) < s.Ins)) = tabB s.n (fun v => decide (v < i + 1) && sIn s.I v) := by
      rw [tabB_set]
      refine tabB_congr fun k _ => ?_
      by_cases c : k = i
      · subst c
        rw [if_pos rfl, decide_eq_true (by omega : k < k + 1), Bool.true_and]
        unfold sIn
        rw [decide_eq_decide]; omega
      · rw [if_neg c]
        congr 1
        rw [decide_eq_decide]; omega
    have s2 : (tabB s.n (fun v => decide (v < i) && sOut s.IM v)).set i (decide (((i : Nat) : Int) ≥ s.Ins + s.Mids)) = tabB s.n (fun v => decide (v < i + 1) && sOut s.IM v) := by
      rw [tabB_set]
      refine tabB_congr fun k _ => ?_
      by_cases c : k = i
      · subst c
        rw [if_pos rfl, decide_eq_true (by omega : k < k + 1), Bool.true_and]
        unfold sOut
        rw [decide_eq_decide]; omega
      · rw [if_neg c]
        congr 1
        rw [decide_eq_decide]; omega
    simp (disch := omega) only [search_through_l_rd, Bool.cond_decide, if_pos g1, if_pos g2, if_pos g3, inK_i64, cond_true, s1, s2]
  · have g1 : ¬ ((s.n : Nat) : Int) < s.Ins + s.Mids + s.Outs := by omega
    have f1 : tabB s.n (fun v => decide (v < s.n) && sIn s.I v) = tabB s.n (sIn s.I) := tabB_congr fun k hk => by rw [decide_eq_true hk, Bool.true_and]
    have f2 : tabB s.n (fun v => decide (v < s.n) && sOut s.IM v) = tabB s.n (sOut s.IM) := tabB_congr fun k hk => by rw [decide_eq_true hk, Bool.true_and]
    simp only [search_through_l_rd, Bool.cond_decide, if_neg g1, f1, f2]
theorem thr_rd {s : Shape} (h : s.right = true) (hl : s.All.length ≤ 2000000) {i : Nat} (hi : i < s.All.length) (A B : Nat → Bool) :
    search_through_l_2_rd s i (tabB s.n A) (tabB s.n B) = some (.inl (i + 1, tabB s.n (stepF A (nth s.P i)), tabB s.n (stepB B (nth s.P (s.All.length - 1 - i))))) := by
  obtain ⟨n1, n2⟩ := n_le h
  have hz := right_sized h
  have hj : s.All.length - 1 - i < s.All.length := by omega
  obtain ⟨p1, p2, p3, p4, p5⟩ := right_pair h (nth_mem hi)
  obtain ⟨q1, q2, q3, q4, q5⟩ := right_pair h (nth_mem hj)
  rw [nthP hi, nthP hj]
  have t1 : ((((s.All.length : Nat) : Int) - 1) - ((i : Nat) : Int)).toNat = s.All.length - 1 - i := by omega
  have g1 : ((i : Nat) : Int) < ((s.All.length : Nat) : Int) := by omega
  have g2 : (0 : Int) ≤ ((s.All.length : Nat) : Int) - 1 - ((i : Nat) : Int) := by omega
  have kF := tab_stepF (N := s.n) (f := A) (e := pePair (nth s.All i)) (by show (nth s.All i).From.toNat < s.n; omega) (by show (nth s.All i).To.toNat < s.n; omega)
  have kB := tab_stepB (N := s.n) (f := B) (e := pePair (nth s.All (s.All.length - 1 - i))) (by show (nth s.All (s.All.length - 1 - i)).From.toNat < s.n; omega) (by show (nth s.All (s.All.length - 1 - i)).To.toNat < s.n; omega)
  have kF : (tabB s.n A).set (nth s.All i).To.toNat (A (nth s.All i).To.toNat || A (nth s.All i).From.toNat) = tabB s.n (stepF A (pePair (nth s.All i))) := kF
  have kB : (tabB s.n B).set (nth s.All (s.All.length - 1 - i)).From.toNat (B (nth s.All (s.All.length - 1 - i)).From.toNat || B (nth s.All (s.All.length - 1 - i)).To.toNat) = tabB s.n (stepB B (pePair (nth s.All (s.All.length - 1 - i)))) := kB
  rw [← kF, ← kB]
  have z1 : 0 ≤ (nth s.All i).To := by omega
  have z4 : 0 ≤ (nth s.All (s.All.length - 1 - i)).To := by omega
  have l1 : (nth s.All i).To.toNat < (tabB s.n A).length := by rw [tabB_len]; omega
  have l2 : (nth s.All i).From.toNat < (tabB s.n A).length := by rw [tabB_len]; omega
  have l3 : (nth s.All (s.All.length - 1 - i)).From.toNat < (tabB s.n B).length := by rw [tabB_len]; omega
  have l4 : (nth s.All (s.All.length - 1 - i)).To.toNat < (tabB s.n B).length := by rw [tabB_len]; omega
  have v1 : nth (tabB s.n A) (nth s.All i).To.toNat = A (nth s.All i).To.toNat := tabB_nth (by omega)
  have v2 : nth (tabB s.n A) (nth s.All i).From.toNat = A (nth s.All i).From.toNat := tabB_nth (by omega)
  have v3 : nth (tabB s.n B) (nth s.All (s.All.length - 1 - i)).From.toNat = B (nth s.All (s.All.length - 1 - i)).From.toNat := tabB_nth (by omega)
  have v4 : nth (tabB s.n B) (nth s.All (s.All.length - 1 - i)).To.toNat = B (nth s.All (s.All.length - 1 - i)).To.toNat := tabB_nth (by omega)
  cases a1 : A (nth s.All i).To.toNat <;> cases b1 : B (nth s.All (s.All.length - 1 - i)).From.toNat <;>
  simp (disch := omega) only [search_through_l_2_rd, Bool.cond_decide, if_pos g1, if_pos hi, if_pos g2, t1, if_pos hj, if_pos z1, if_pos p1, if_pos q1, if_pos z4, if_pos l1, if_pos l2, if_pos l3, if_pos l4, v1, v2, v3, v4, a1, b1, cond_true, cond_false, inK_i64, Bool.true_or, Bool.false_or]
theorem thr_l2 {s : Shape} (h : s.right = true) (hl : s.All.length ≤ 2000000) : search_through_l_2 s 0 (tabB s.n (sIn s.I)) (tabB s.n (sOut s.IM)) = some (tabB s.n (fr s.I s.P), tabB s.n (to_ s.IM s.P)) := by
  have hp := P_len s
  unfold search_through_l_2
  have e2 : (0, tabB s.n (sIn s.I), tabB s.n (sOut s.IM)) = (fun i : Nat => (i, tabB s.n (foldF (sIn s.I) (s.P.take i)), tabB s.n (bkB (sOut s.IM) (s.P.drop (s.All.length - i))))) 0 := by
    dsimp only
    rw [List.take_zero, Nat.sub_zero, ← hp, List.drop_length]
    rfl
  rw [e2]
  refine loop_run (round := fun σ : Nat × List Bool × List Bool => search_through_l_2_rd s σ.1 σ.2.1 σ.2.2) (fun i : Nat => (i, tabB s.n (foldF (sIn s.I) (s.P.take i)), tabB s.n (bkB (sOut s.IM) (s.P.drop (s.All.length - i))))) s.All.length (fun i hi => ?_) ?_ (by simp only [FU]; omega)
  · dsimp only
    rw [thr_rd h hl hi, take_nth (by omega), foldF_snoc, show s.All.length - (i + 1) = s.All.length - 1 - i by omega]
    have hd : s.P.drop (s.All.length - 1 - i) = nth s.P (s.All.length - 1 - i) :: s.P.drop (s.All.length - i) := by
      rw [nth_get (by omega), List.drop_eq_getElem_cons (by omega), show s.All.length - 1 - i + 1 = s.All.length - i by omega]
    rw [hd, bkB_step]
  · have g1 : ¬ ((s.All.length : Nat) : Int) < ((s.All.length : Nat) : Int) := by omega
    dsimp only
    rw [Nat.sub_self, List.drop_zero, List.take_of_length_le (by omega)]
    simp only [search_through_l_2_rd, Bool.cond_decide, if_neg g1]
    rfl
theorem thr_l3 {s : Shape} (h : s.right = true) (A B : Nat → Bool) : search_through_l_3 s (tabB s.n A, tabB s.n B) 0 (tabB s.n A) = some (tabB s.n fun v => A v && B v) := by
  obtain ⟨n1, n2⟩ := n_le h
  have e2 : (0, tabB s.n A) = (fun i : Nat => (i, tabB s.n fun v => if v < i then A v && B v else A v)) 0 := by
    dsimp only
    congr 1
  unfold search_through_l_3
  rw [e2]
  refine loop_run (round := fun σ : Nat × List Bool => search_through_l_3_rd s (tabB s.n A, tabB s.n B) σ.1 σ.2) (fun i : Nat => (i, tabB s.n fun v => if v < i then A v && B v else A v)) s.n (fun i hi => ?_) ?_ (by simp only [FU]; omega)
  · have g1 : ((i : Nat) : Int) < s.Ins + s.Mids + s.Outs := by omega
    have g2 : i < (tabB s.n fun v => if v < i then A v && B v else A v).length := by rw [tabB_len]; exact hi
    have g3 : i < (tabB s.n B).length := by rw [tabB_len]; exact hi
    have v1 : nth (tabB s.n fun v => if v < i then A v && B v else A v) i = A i := by rw [tabB_nth hi, if_neg (by omega)]
    have v2 : nth (tabB s.n B) i = B i := tabB_nth hi
    have st : (tabB s.n fun v => if v < i then A v && B v else A v).set i (A i && B i) = tabB s.n fun v => if v < i + 1 then A v && B v else A v := by
      rw [tabB_set]
      refine tabB_congr fun k _ => ?_
      by_cases c : k = i
      · subst c
        rw [if_pos rfl, if_pos (by omega)]
      · rw [if_neg c]
        by_cases c2 : k < i
        · rw [if_pos c2, if_pos (by omega)]
        · rw [if_neg c2, if_neg (by omega)]
    dsimp only
    rw [← st]
    cases a : A i with
    | true => simp (disch := omega) only [search_through_l_3_rd, Bool.cond_decide, if_pos g1, if_pos g2, v1, a, cond_true, if_pos g3, v2, inK_i64, Bool.true_and]
    | false => simp (disch := omega) only [search_through_l_3_rd, Bool.cond_decide, if_pos g1, if_pos g2, v1, a, cond_false, cond_true, inK_i64, Bool.false_and]
  · have g1 : ¬ ((s.n : Nat) : Int) < s.Ins + s.Mids + s.Outs := by omega
    dsimp only
    have f : (tabB s.n fun v => if v < s.n then A v && B v else A v) = tabB s.n fun v => A v && B v := tabB_congr fun k hk => by rw [if_pos hk]
    rw [f]
    simp only [search_through_l_3_rd, Bool.cond_decide, if_neg g1]
theorem through_eq {s : Shape} (h : s.right = true) (hl : s.All.length ≤ 2000000) : search_through s = some (tabB s.n s.thr) := by
  obtain ⟨n1, n2⟩ := n_le h
  have hz := right_sized h
  have g1 : 0 ≤ s.Ins + s.Mids + s.Outs := by omega
  have g2 : (s.Ins + s.Mids + s.Outs).toNat ≤ 2147483648 := by omega
  have l1 := thr_l h
  unfold Shape.n at l1
  simp (disch := omega) only [search_through, Bool.cond_decide, inK_i64, cond_true, if_pos g1, if_pos g2]
  have l1' : search_through_l s 0 (List.replicate (s.Ins + s.Mids + s.Outs).toNat false) (List.replicate (s.Ins + s.Mids + s.Outs).toNat false) = some (tabB s.n (sIn s.I), tabB s.n (sOut s.IM)) := l1
  rw [l1', Option.bind_some, thr_l2 h hl, Option.bind_some, thr_l3 h, Option.bind_some]
  rfl
/-! ### the bound -/
/-- mids, each once? -/
def Shape.apart (s : Shape) (left : List Int) (i : Nat) : Bool := s.isMid (nth left i) && !decide (nth left i ∈ left.take i)
def Shape.cnt (s : Shape) (left : List Int) : Nat := (left.filter fun v => s.thr v.toNat).length
def Shape.bnd (s : Shape) (left : List Int) : Int := if s.right = true then (if (List.range left.length).all (s.apart left) = true then (s.cnt left : Int) else 0) else 0
theorem cnt_step (s : Shape) {left : List Int} {i : Nat} (hi : i < left.length) : s.cnt (left.take (i + 1)) = if s.thr (nth left i).toNat = true then s.cnt (left.take i) + 1 else s.cnt (left.take i) := by
  unfold Shape.cnt
  rw [take_nth hi, List.filter_append, List.length_append]
  generalize nth left i = v
  rw [List.filter_cons, List.filter_nil]
  cases s.thr v.toNat with
  | true => rw [if_pos rfl, if_pos rfl]; rfl
  | false => rw [if_neg Bool.false_ne_true, if_neg Bool.false_ne_true]; rfl
theorem cnt_le (s : Shape) (left : List Int) : s.cnt left ≤ left.length := List.length_filter_le _ _
theorem Bound_eq {s : Shape} (hl : s.All.length ≤ 2000000) {left : List Int} (h2 : left.length ≤ 1000000) : search_Bound s left = some (s.bnd left) := by
  unfold search_Bound Shape.bnd
  rw [shape_Right_eq hl, Option.bind_some]
  cases hr : s.right with
  | false => rw [Bool.not_false, cond_true, if_neg Bool.false_ne_true]
  | true =>
    rw [Bool.not_true, cond_false, if_pos rfl, through_eq hr hl, Option.bind_some]
    obtain ⟨n1, n2⟩ := n_le hr
    have hz := right_sized hr
    have key : search_Bound_l s left (tabB s.n s.thr) 0 0 = some (if (List.range left.length).all (s.apart left) = true then .inr (s.cnt (left.take left.length)) else .inl ()) := by
      unfold search_Bound_l
      have e0 : ((0 : Nat), (0 : Nat)) = (fun i : Nat => (s.cnt (left.take i), i)) 0 := rfl
      rw [e0]
      refine loop_allg (round := fun σ : Nat × Nat => search_Bound_l_rd s left (tabB s.n s.thr) σ.1 σ.2) (fun i : Nat => (s.cnt (left.take i), i)) (s.apart left) left.length (.inr (s.cnt (left.take left.length))) (.inl ()) (fun i hi hp => ?_) (fun i hi hp => ?_) ?_ (by simp only [FU]; omega)
      · unfold Shape.apart Shape.isMid at hp
        simp only [Bool.and_eq_true, decide_eq_true_eq, Bool.not_eq_true', decide_eq_false_iff_not] at hp
        obtain ⟨⟨m1, m2⟩, m3⟩ := hp
        have g1 : ((i : Nat) : Int) < (left.length : Int) := by omega
        have g2 : ¬ nth left i < s.Ins := by omega
        have g3 : ¬ nth left i ≥ s.Ins + s.Mids := by omega
        have hc := Contains_eq (s := left.take i) (by rw [List.length_take]; omega) (nth left i)
        rw [decide_eq_false m3] at hc
        have g4 : 0 ≤ nth left i := by omega
        have g5 : (nth left i).toNat < (tabB s.n s.thr).length := by rw [tabB_len]; omega
        have v1 : nth (tabB s.n s.thr) (nth left i).toNat = s.thr (nth left i).toNat := tabB_nth (by omega)
        have c0 := cnt_le s (left.take i)
        rw [List.length_take] at c0
        have g6 : i ≤ left.length := by omega
        dsimp only
        rw [cnt_step s hi]
        cases ht : s.thr (nth left i).toNat with
        | true =>
          rw [if_pos rfl]
          simp (disch := omega) only [search_Bound_l_rd, Bool.cond_decide, if_pos g1, if_pos hi, if_neg g2, if_neg g3, inK_i64, cond_true, cond_false, if_pos (Nat.zero_le i), if_pos g6, hc, Option.bind_some, if_pos g4, if_pos g5, v1, ht]
        | false =>
          rw [if_neg Bool.false_ne_true]
          simp (disch := omega) only [search_Bound_l_rd, Bool.cond_decide, if_pos g1, if_pos hi, if_neg g2, if_neg g3, inK_i64, cond_true, cond_false, if_pos (Nat.zero_le i), if_pos g6, hc, Option.bind_some, if_pos g4, if_pos g5, v1, ht]
      · unfold Shape.apart Shape.isMid at hp
        have g1 : ((i : Nat) : Int) < (left.length : Int) := by omega
        have g6 : i ≤ left.length := by omega
        dsimp only
        by_cases g2 : nth left i < s.Ins
        · simp only [search_Bound_l_rd, Bool.cond_decide, if_pos g1, if_pos hi, if_pos g2]
        by_cases g3 : nth left i ≥ s.Ins + s.Mids
        · simp (disch := omega) only [search_Bound_l_rd, Bool.cond_decide, if_pos g1, if_pos hi, if_neg g2, if_pos g3, inK_i64, cond_true]
        · have m3 : nth left i ∈ left.take i := by
            rw [decide_eq_true (by omega : s.Ins ≤ nth left i), decide_eq_true (by omega : nth left i < s.Ins + s.Mids), Bool.true_and, Bool.true_and] at hp
            by_cases hm : nth left i ∈ left.take i
            · exact hm
            · rw [decide_eq_false hm] at hp; cases hp
          have hc := Contains_eq (s := left.take i) (by rw [List.length_take]; omega) (nth left i)
          rw [decide_eq_true m3] at hc
          simp (disch := omega) only [search_Bound_l_rd, Bool.cond_decide, if_pos g1, if_pos hi, if_neg g2, if_neg g3, inK_i64, cond_true, if_pos (Nat.zero_le i), if_pos g6, hc, Option.bind_some]
      · have g1 : ¬ ((left.length : Nat) : Int) < (left.length : Int) := by omega
        simp only [search_Bound_l_rd, Bool.cond_decide, if_neg g1]
    rw [key, Option.bind_some, List.take_length]
    by_cases ha : (List.range left.length).all (s.apart left) = true
    · rw [if_pos ha, if_pos ha]; rfl
    · rw [if_neg ha, if_neg ha]; rfl
end Go.Ab.M
end

section
/-
  PLAIN LAW: A VERTEX THAT GOES TAKES ITS PART OF THE BOUND; what is left costs no less than it.
-/
namespace Go.Ab.M
open Go.Proofs Go.Ab
set_option linter.unusedVariables false
set_option linter.unusedSimpArgs false

theorem P_fwd {s : Shape} (h : s.right = true) : Fwd s.P := by
  have hr := h
  simp only [Shape.right, Bool.and_eq_true, List.all_eq_true, List.mem_range] at hr
  constructor
  · unfold Shape.P
    rw [List.pairwise_map]
    have hp : s.All.Pairwise (fun a b : Pair => a.From < b.From ∨ (a.From = b.From ∧ a.To < b.To)) := by
      refine (pair_adj (R := fun a b : Pair => a.From < b.From ∨ (a.From = b.From ∧ a.To < b.To)) (fun a b c h1 h2 => by omega)).2 fun i hi => ?_
      have := hr.2 i hi
      simp only [Shape.fits, Bool.and_eq_true, Bool.or_eq_true, decide_eq_true_eq] at this
      omega
    refine List.Pairwise.imp_of_mem (fun {a b} ha hb hab => ?_) hp
    have ra := right_pair h ha
    have rb := right_pair h hb
    show a.From.toNat ≤ b.From.toNat
    omega
  · intro e he
    obtain ⟨p, hp, rfl⟩ := List.mem_map.1 he
    have := right_pair h hp
    show p.From.toNat < p.To.toNat
    omega
theorem mem_P {s : Shape} (h : s.right = true) {e : PE} : e ∈ s.P ↔ ∃ a b : Nat, e = ⟨a, b, 0⟩ ∧ s.has (a : Int) (b : Int) = true := by
  unfold Shape.P
  rw [List.mem_map]
  constructor
  · rintro ⟨p, hp, rfl⟩
    have := right_pair h hp
    refine ⟨p.From.toNat, p.To.toNat, rfl, ?_⟩
    unfold Shape.has
    rw [decide_eq_true_eq, Int.toNat_of_nonneg (by omega), Int.toNat_of_nonneg (by omega)]
    exact hp
  · rintro ⟨a, b, rfl, hh⟩
    unfold Shape.has at hh
    rw [decide_eq_true_eq] at hh
    exact ⟨_, hh, rfl⟩
theorem fr_iff {s : Shape} (h : s.right = true) {v : Nat} : fr s.I s.P v = true ↔ v < s.I ∨ ∃ u : Nat, s.has (u : Int) (v : Int) = true ∧ fr s.I s.P u = true := by
  have e := foldF_last (l := s.P) (sIn s.I) v s.P [] (List.append_nil _) (P_fwd h)
  have e' : fr s.I s.P v = (sIn s.I v || (s.P.filter fun e => decide (e.t = v)).any fun e => fr s.I s.P e.f) := e
  rw [e', Bool.or_eq_true, List.any_eq_true]
  constructor
  · rintro (q | ⟨e, he, hf⟩)
    · exact .inl (of_decide_eq_true q)
    · rw [List.mem_filter, decide_eq_true_eq] at he
      obtain ⟨a, b, rfl, hh⟩ := (mem_P h).1 he.1
      have hb : b = v := he.2
      subst hb
      exact .inr ⟨a, hh, hf⟩
  · rintro (q | ⟨u, hh, hf⟩)
    · exact .inl (decide_eq_true q)
    · exact .inr ⟨⟨u, v, 0⟩, List.mem_filter.2 ⟨(mem_P h).2 ⟨u, v, rfl, hh⟩, decide_eq_true rfl⟩, hf⟩
theorem to_iff {s : Shape} (h : s.right = true) {v : Nat} : to_ s.IM s.P v = true ↔ s.IM ≤ v ∨ ∃ u : Nat, s.has (v : Int) (u : Int) = true ∧ to_ s.IM s.P u = true := by
  have e := bkB_first (l := s.P) (sOut s.IM) v (r := s.P) (p := []) rfl (P_fwd h)
  have e' : to_ s.IM s.P v = (sOut s.IM v || (s.P.filter fun e => decide (e.f = v)).any fun e => to_ s.IM s.P e.t) := e
  rw [e', Bool.or_eq_true, List.any_eq_true]
  constructor
  · rintro (q | ⟨e, he, hf⟩)
    · exact .inl (of_decide_eq_true q)
    · rw [List.mem_filter, decide_eq_true_eq] at he
      obtain ⟨a, b, rfl, hh⟩ := (mem_P h).1 he.1
      have hb : a = v := he.2
      subst hb
      exact .inr ⟨b, hh, hf⟩
  · rintro (q | ⟨u, hh, hf⟩)
    · exact .inl (decide_eq_true q)
    · exact .inr ⟨⟨v, u, 0⟩, List.mem_filter.2 ⟨(mem_P h).2 ⟨v, u, rfl, hh⟩, decide_eq_true rfl⟩, hf⟩
/-! ### a vertex goes -/
/-! ### mids that are left -/
end Go.Ab.M
end

section
/-
  PLAIN LAW: WHAT IS LEFT COSTS NO LESS THAN ITS BOUND: by the document.
-/
namespace Go.Ab.M
open Go.Proofs Go.Ab
set_option linter.unusedVariables false
set_option linter.unusedSimpArgs false

theorem ways_l1 {s : Shape} (h : s.right = true) (hl : s.All.length ≤ 2000000) {F : Shape → Int → Bool → Option Bool} {f : Nat → Bool} {v : Nat} (hF : ∀ u : Nat, s.has (u : Int) (v : Int) = true → F s (u : Int) true = some (f u)) :
    ref24_ways_l s (v : Int) true F 0 = some (if (List.range s.n).all (fun u => !(s.has (u : Int) (v : Int) && f u)) = true then .inr () else .inl ()) := by
  obtain ⟨n1, n2⟩ := n_le h
  have hz := right_sized h
  unfold ref24_ways_l
  refine loop_all (round := fun σ : Nat => ref24_ways_l_rd s (v : Int) true F σ) (fun u => !(s.has (u : Int) (v : Int) && f u)) s.n (.inr ()) (.inl ()) (fun i hi hp => ?_) (fun i hi hp => ?_) ?_ (by simp only [FU]; omega)
  · have g1 : ((i : Nat) : Int) < s.Ins + s.Mids + s.Outs := by omega
    cases hd : s.has (i : Int) (v : Int) with
    | false => simp (disch := omega) only [ref24_ways_l_rd, Bool.cond_decide, if_pos g1, ref22_Has_eq hl, hd, Option.bind_some, cond_true, cond_false, inK_i64]
    | true =>
      rw [hd] at hp
      have hf : f i = false := by cases hq : f i with
        | false => rfl
        | true => rw [hq] at hp; cases hp
      simp (disch := omega) only [ref24_ways_l_rd, Bool.cond_decide, if_pos g1, ref22_Has_eq hl, hd, hF i hd, hf, Option.bind_some, cond_true, cond_false, inK_i64]
  · have g1 : ((i : Nat) : Int) < s.Ins + s.Mids + s.Outs := by omega
    cases hd : s.has (i : Int) (v : Int) with
    | false => rw [hd] at hp; cases hp
    | true =>
      rw [hd] at hp
      have hf : f i = true := by cases hq : f i with
        | true => rfl
        | false => rw [hq] at hp; cases hp
      simp (disch := omega) only [ref24_ways_l_rd, Bool.cond_decide, if_pos g1, ref22_Has_eq hl, hd, hF i hd, hf, Option.bind_some, cond_true, cond_false, inK_i64]
  · have g1 : ¬ ((s.n : Nat) : Int) < s.Ins + s.Mids + s.Outs := by omega
    simp (disch := omega) only [ref24_ways_l_rd, Bool.cond_decide, if_neg g1, inK_i64, cond_true]
theorem ways_l2 {s : Shape} (h : s.right = true) (hl : s.All.length ≤ 2000000) {F : Shape → Int → Bool → Option Bool} {f : Nat → Bool} {v : Nat} (hF : ∀ u : Nat, s.has (v : Int) (u : Int) = true → F s (u : Int) false = some (f u)) :
    ref24_ways_l s (v : Int) false F 0 = some (if (List.range s.n).all (fun u => !(s.has (v : Int) (u : Int) && f u)) = true then .inr () else .inl ()) := by
  obtain ⟨n1, n2⟩ := n_le h
  have hz := right_sized h
  unfold ref24_ways_l
  refine loop_all (round := fun σ : Nat => ref24_ways_l_rd s (v : Int) false F σ) (fun u => !(s.has (v : Int) (u : Int) && f u)) s.n (.inr ()) (.inl ()) (fun i hi hp => ?_) (fun i hi hp => ?_) ?_ (by simp only [FU]; omega)
  · have g1 : ((i : Nat) : Int) < s.Ins + s.Mids + s.Outs := by omega
    cases hd : s.has (v : Int) (i : Int) with
    | false => simp (disch := omega) only [ref24_ways_l_rd, Bool.cond_decide, if_pos g1, ref22_Has_eq hl, hd, Option.bind_some, cond_true, cond_false, inK_i64]
    | true =>
      rw [hd] at hp
      have hf : f i = false := by cases hq : f i with
        | false => rfl
        | true => rw [hq] at hp; cases hp
      simp (disch := omega) only [ref24_ways_l_rd, Bool.cond_decide, if_pos g1, ref22_Has_eq hl, hd, hF i hd, hf, Option.bind_some, cond_true, cond_false, inK_i64]
  · have g1 : ((i : Nat) : Int) < s.Ins + s.Mids + s.Outs := by omega
    cases hd : s.has (v : Int) (i : Int) with
    | false => rw [hd] at hp; cases hp
    | true =>
      rw [hd] at hp
      have hf : f i = true := by cases hq : f i with
        | true => rfl
        | false => rw [hq] at hp; cases hp
      simp (disch := omega) only [ref24_ways_l_rd, Bool.cond_decide, if_pos g1, ref22_Has_eq hl, hd, hF i hd, hf, Option.bind_some, cond_true, cond_false, inK_i64]
  · have g1 : ¬ ((s.n : Nat) : Int) < s.Ins + s.Mids + s.Outs := by omega
    simp (disch := omega) only [ref24_ways_l_rd, Bool.cond_decide, if_neg g1, inK_i64, cond_true]
theorem caseB {b : Bool} : (caseS (if b = true then (.inr () : Unit ⊕ Unit) else .inl ()) (fun _ => some true) (fun _ => some false)) = some (!b) := by
  cases b <;> rfl
theorem ways_sb {s : Shape} (h : s.right = true) {F : Shape → Int → Bool → Option Bool} {v : Nat} : ref24_ways_st F s (v : Int) true = if v < s.I then some true else (ref24_ways_l s (v : Int) true F 0).bind fun y_ => caseS y_ (fun x0 => some true) (fun x1 => some false) := by
  have hz := right_sized h
  have eI : (s.I : Int) = s.Ins := by unfold Shape.I; omega
  unfold ref24_ways_st
  rw [cond_true, Bool.cond_decide]
  by_cases c : v < s.I
  · have g : (v : Int) < s.Ins := by omega
    rw [if_pos g, if_pos c]
  · have g : ¬ (v : Int) < s.Ins := by omega
    rw [if_neg g, if_neg c]
    rfl
theorem ways_sf {s : Shape} (h : s.right = true) {F : Shape → Int → Bool → Option Bool} {v : Nat} : ref24_ways_st F s (v : Int) false = if s.IM ≤ v then some true else (ref24_ways_l s (v : Int) false F 0).bind fun y_ => caseS y_ (fun x0 => some true) (fun x1 => some false) := by
  have hz := right_sized h
  have eM : (s.IM : Int) = s.Ins + s.Mids := by unfold Shape.IM; omega
  unfold ref24_ways_st
  rw [cond_false, Bool.not_false, cond_true, inK_i64 (by omega) (by omega), cond_true, Bool.cond_decide]
  by_cases c : s.IM ≤ v
  · have g : (v : Int) ≥ s.Ins + s.Mids := by omega
    rw [if_pos g, if_pos c]
  · have g : ¬ (v : Int) ≥ s.Ins + s.Mids := by omega
    rw [if_neg g, if_neg c]
theorem ways_back {s : Shape} (h : s.right = true) (hl : s.All.length ≤ 2000000) : ∀ (n v : Nat), v < n → ref24_ways_n n s (v : Int) true = some (fr s.I s.P v)
  | 0, v, hv => by omega
  | n + 1, v, hv => by
    show ref24_ways_st (ref24_ways_n n) s (v : Int) true = _
    rw [ways_sb h]
    by_cases c : v < s.I
    · rw [if_pos c, (fr_iff h).2 (.inl c)]
    · rw [if_neg c, ways_l1 h hl (f := fr s.I s.P) fun u hu => ?_, Option.bind_some, caseB]
      · congr 1
        rw [Bool.eq_iff_iff, fr_iff h, Bool.not_eq_true', ← Bool.not_eq_true, List.all_eq_true]
        constructor
        · intro hn
          refine .inr (Classical.byContradiction fun hno => hn fun u hu => ?_)
          cases h1 : s.has (u : Int) (v : Int) with
          | false => rfl
          | true =>
            cases h2 : fr s.I s.P u with
            | false => rfl
            | true => exact absurd ⟨u, h1, h2⟩ hno
        · rintro (q | ⟨u, h1, h2⟩) hall
          · omega
          · have hlt := has_lt h h1
            have := hall u (List.mem_range.2 (by omega))
            rw [h1, h2] at this
            cases this
      · have := has_lt h hu
        exact ways_back h hl n u (by omega)
theorem ways_on {s : Shape} (h : s.right = true) (hl : s.All.length ≤ 2000000) : ∀ (n v : Nat), s.n < n + v → v < s.n → ref24_ways_n n s (v : Int) false = some (to_ s.IM s.P v)
  | 0, v, hv, hv2 => by omega
  | n + 1, v, hv, hv2 => by
    show ref24_ways_st (ref24_ways_n n) s (v : Int) false = _
    rw [ways_sf h]
    by_cases c : s.IM ≤ v
    · rw [if_pos c, (to_iff h).2 (.inl c)]
    · rw [if_neg c, ways_l2 h hl (f := to_ s.IM s.P) fun u hu => ?_, Option.bind_some, caseB]
      · congr 1
        rw [Bool.eq_iff_iff, to_iff h, Bool.not_eq_true', ← Bool.not_eq_true, List.all_eq_true]
        constructor
        · intro hn
          refine .inr (Classical.byContradiction fun hno => hn fun u hu => ?_)
          cases h1 : s.has (v : Int) (u : Int) with
          | false => rfl
          | true =>
            cases h2 : to_ s.IM s.P u with
            | false => rfl
            | true => exact absurd ⟨u, h1, h2⟩ hno
        · rintro (q | ⟨u, h1, h2⟩) hall
          · omega
          · have hlt := has_lt h h1
            have := hall u (List.mem_range.2 (by omega))
            rw [h1, h2] at this
            cases this
      · have := has_lt h hu
        exact ways_on h hl n u (by omega) (by omega)
theorem bound24_l2 (s : Shape) {left : List Int} (h2 : left.length ≤ 1000000) (sum : Nat) {i : Nat} (hi : i < left.length) :
    ref24_Bound_l_2 s left sum i 0 = some (if nth left i ∈ left.take i then .inl () else .inr ()) := by
  have key : ref24_Bound_l_2 s left sum i 0 = some (if (List.range i).all (fun k => !decide (nth left k = nth left i)) = true then .inr () else .inl ()) := by
    unfold ref24_Bound_l_2
    refine loop_all (round := fun σ : Nat => ref24_Bound_l_2_rd s left sum i σ) (fun k => !decide (nth left k = nth left i)) i (.inr ()) (.inl ()) (fun k hk hp => ?_) (fun k hk hp => ?_) ?_ (by simp only [FU]; omega)
    · have g1 : ((k : Nat) : Int) < ((i : Nat) : Int) := by omega
      have g2 : k < left.length := by omega
      have e : (nth left k == nth left i) = false := by
        rw [beq_eq_false_iff_ne]
        intro e
        rw [decide_eq_true e] at hp
        cases hp
      simp (disch := omega) only [ref24_Bound_l_2_rd, Bool.cond_decide, if_pos g1, if_pos g2, if_pos hi, e, cond_false, inK_i64, cond_true]
    · have g1 : ((k : Nat) : Int) < ((i : Nat) : Int) := by omega
      have g2 : k < left.length := by omega
      have e : (nth left k == nth left i) = true := by
        rw [beq_iff_eq]
        by_cases e : nth left k = nth left i
        · exact e
        · rw [decide_eq_false e] at hp; cases hp
      simp only [ref24_Bound_l_2_rd, Bool.cond_decide, if_pos g1, if_pos g2, if_pos hi, e, cond_true]
    · have g1 : ¬ ((i : Nat) : Int) < ((i : Nat) : Int) := by omega
      simp only [ref24_Bound_l_2_rd, Bool.cond_decide, if_neg g1]
  rw [key]
  by_cases hm : nth left i ∈ left.take i
  · rw [if_pos hm, if_neg]
    intro hall
    obtain ⟨k, hk, e⟩ := List.getElem_of_mem hm
    rw [List.length_take] at hk
    rw [List.getElem_take] at e
    have := List.all_eq_true.1 hall k (List.mem_range.2 (by omega))
    rw [nth_get (by omega : k < left.length), decide_eq_true e] at this
    cases this
  · rw [if_neg hm, if_pos]
    rw [List.all_eq_true]
    intro k hk
    have hk := List.mem_range.1 hk
    rw [Bool.not_eq_true', decide_eq_false_iff_not]
    intro e
    apply hm
    rw [← e, nth_get (by omega)]
    exact List.mem_take_iff_getElem.2 ⟨k, by omega, rfl⟩
theorem ref24_Bound_eq {s : Shape} (hr : s.right = true) (hl : s.All.length ≤ 2000000) {left : List Int} (h2 : left.length ≤ 1000000) : ref24_Bound s left = some (s.bnd left) := by
  obtain ⟨n1, n2⟩ := n_le hr
  have hz := right_sized hr
  unfold ref24_Bound Shape.bnd
  rw [if_pos hr]
  have key : ref24_Bound_l s left 0 0 = some (if (List.range left.length).all (s.apart left) = true then .inr (s.cnt (left.take left.length)) else .inl ()) := by
    unfold ref24_Bound_l
    have e0 : ((0 : Nat), (0 : Nat)) = (fun i : Nat => (s.cnt (left.take i), i)) 0 := rfl
    rw [e0]
    refine loop_allg (round := fun σ : Nat × Nat => ref24_Bound_l_rd s left σ.1 σ.2) (fun i : Nat => (s.cnt (left.take i), i)) (s.apart left) left.length (.inr (s.cnt (left.take left.length))) (.inl ()) (fun i hi hp => ?_) (fun i hi hp => ?_) ?_ (by simp only [FU]; omega)
    · unfold Shape.apart at hp
      simp only [Bool.and_eq_true, Bool.not_eq_true', decide_eq_false_iff_not] at hp
      obtain ⟨m1, m3⟩ := hp
      have m1' := m1
      simp only [Shape.isMid, Bool.and_eq_true, decide_eq_true_eq] at m1'
      have g1 : ((i : Nat) : Int) < (left.length : Int) := by omega
      have hm := ref22_Mid_eq hl (nth left i)
      rw [hr, m1, Bool.true_and] at hm
      have b2 := bound24_l2 s h2 (s.cnt (left.take i)) hi
      rw [if_neg m3] at b2
      obtain ⟨w, hw⟩ : ∃ w : Nat, nth left i = (w : Int) := ⟨(nth left i).toNat, by omega⟩
      have hwn : w < s.n := by omega
      have w1 : ref24_ways s (nth left i) true = some (fr s.I s.P w) := by rw [hw]; exact ways_back hr hl FU w (by simp only [FU]; omega)
      have w2 : ref24_ways s (nth left i) false = some (to_ s.IM s.P w) := by rw [hw]; exact ways_on hr hl FU w (by simp only [FU]; omega) hwn
      have c0 := cnt_le s (left.take i)
      rw [List.length_take] at c0
      have ht : s.thr (nth left i).toNat = (fr s.I s.P w && to_ s.IM s.P w) := by rw [hw, Int.toNat_natCast]; rfl
      dsimp only
      rw [cnt_step s hi, ht]
      cases f1 : fr s.I s.P w with
      | false =>
        rw [Bool.false_and, if_neg Bool.false_ne_true]
        simp (disch := omega) only [ref24_Bound_l_rd, Bool.cond_decide, if_pos g1, if_pos hi, hm, Option.bind_some, Bool.not_true, cond_false, b2, caseS_inr, w1, f1, inK_i64, cond_true]
      | true =>
        cases f2 : to_ s.IM s.P w with
        | false =>
          rw [Bool.and_false, if_neg Bool.false_ne_true]
          simp (disch := omega) only [ref24_Bound_l_rd, Bool.cond_decide, if_pos g1, if_pos hi, hm, Option.bind_some, Bool.not_true, cond_false, b2, caseS_inr, w1, f1, w2, f2, inK_i64, cond_true]
        | true =>
          rw [Bool.and_true, if_pos rfl]
          simp (disch := omega) only [ref24_Bound_l_rd, Bool.cond_decide, if_pos g1, if_pos hi, hm, Option.bind_some, Bool.not_true, cond_false, b2, caseS_inr, w1, f1, w2, f2, inK_i64, cond_true]
    · have g1 : ((i : Nat) : Int) < (left.length : Int) := by omega
      have hm := ref22_Mid_eq hl (nth left i)
      rw [hr, Bool.true_and] at hm
      dsimp only
      unfold Shape.apart at hp
      cases m1 : s.isMid (nth left i) with
      | false =>
        rw [m1] at hm
        simp only [ref24_Bound_l_rd, Bool.cond_decide, if_pos g1, if_pos hi, hm, Option.bind_some, Bool.not_false, cond_true]
      | true =>
        rw [m1] at hm hp
        rw [Bool.true_and] at hp
        have m3 : nth left i ∈ left.take i := by
          by_cases hm : nth left i ∈ left.take i
          · exact hm
          · rw [decide_eq_false hm] at hp; cases hp
        have b2 := bound24_l2 s h2 (s.cnt (left.take i)) hi
        rw [if_pos m3] at b2
        simp only [ref24_Bound_l_rd, Bool.cond_decide, if_pos g1, if_pos hi, hm, Option.bind_some, Bool.not_true, cond_false, b2, caseS_inl]
    · have g1 : ¬ ((left.length : Nat) : Int) < (left.length : Int) := by omega
      simp only [ref24_Bound_l_rd, Bool.cond_decide, if_neg g1]
  rw [key, Option.bind_some, List.take_length]
  by_cases ha : (List.range left.length).all (s.apart left) = true
  · rw [if_pos ha, if_pos ha]; rfl
  · rw [if_neg ha, if_neg ha]; rfl
end Go.Ab.M
end

section
/-
  PLAIN LAW: HOW MANY BEGINNINGS THERE ARE, what some mids of any shape cost no less than, and which shapes are refused, is as the document says.
-/
namespace Go.Ab.M
open Go.Proofs Go.Ab
set_option linter.unusedVariables false
set_option linter.unusedSimpArgs false

theorem nodes_at : ∀ k : Nat, k < 13 → ∃ n, search_Nodes (k : Int) = some n ∧ ref24_Nodes (k : Int) = some n
  | 0, _ => ⟨1, by kernel_rfl, by kernel_rfl⟩
  | 1, _ => ⟨2, by kernel_rfl, by kernel_rfl⟩
  | 2, _ => ⟨5, by kernel_rfl, by kernel_rfl⟩
  | 3, _ => ⟨16, by kernel_rfl, by kernel_rfl⟩
  | 4, _ => ⟨65, by kernel_rfl, by kernel_rfl⟩
  | 5, _ => ⟨326, by kernel_rfl, by kernel_rfl⟩
  | 6, _ => ⟨1957, by kernel_rfl, by kernel_rfl⟩
  | 7, _ => ⟨13700, by kernel_rfl, by kernel_rfl⟩
  | 8, _ => ⟨109601, by kernel_rfl, by kernel_rfl⟩
  | 9, _ => ⟨986410, by kernel_rfl, by kernel_rfl⟩
  | 10, _ => ⟨9864101, by kernel_rfl, by kernel_rfl⟩
  | 11, _ => ⟨108505112, by kernel_rfl, by kernel_rfl⟩
  | 12, _ => ⟨1302061345, by kernel_rfl, by kernel_rfl⟩
  | n + 13, h => by omega
theorem SearchTells_true (k : Int) (s : Shape) (left : List Int) {T T' : Prop} (hk : inRange .u8 k) (hs : T) (hl : T') : law24_SearchTells k s left = some true := by
  obtain ⟨b, hb, hf⟩ := ref22_Few_eq s
  unfold law24_SearchTells
  rw [awake24, Option.bind_some, hb, Option.bind_some]
  cases b with
  | false => rfl
  | true =>
    have h40 := hf rfl
    rw [Bool.not_true, cond_false]
    by_cases h8 : ((left.length : Nat) : Int) > 8
    · rw [decide_eq_true h8, cond_true]
    rw [decide_eq_false h8, cond_false, ref22_Right_eq (by omega), Option.bind_some]
    obtain ⟨k0, k1⟩ := hk
    obtain ⟨m, hm⟩ : ∃ m : Nat, k % 13 = (m : Int) := ⟨(k % 13).toNat, by omega⟩
    obtain ⟨n, n1, n2⟩ := nodes_at m (by omega)
    have g1 : 0 ≤ k := k0
    have g2 : (0 : Nat) < 13 := by decide
    have hB := Bound_eq (s := s) (by omega) (left := left) (by omega)
    cases hr : s.right with
    | true =>
      have hB2 := ref24_Bound_eq hr (by omega) (left := left) (by omega)
      rw [cond_true, hB2, Option.bind_some, Bool.not_true, cond_false]
      simp (disch := omega) only [Bool.cond_decide, if_pos g1, if_pos g2, inK_i64, cond_true, hm, n1, n2, Option.bind_some, BEq.rfl, hB]
    | false =>
      have hS : search_Search s 1000 = some ([], 0, false, 1) := by
        unfold search_Search
        rw [shape_Right_eq (by omega), hr]
        rfl
      have hb0 : s.bnd left = 0 := by unfold Shape.bnd; rw [hr, if_neg Bool.false_ne_true]
      rw [hb0] at hB
      have z1 : ((1 : Int) != 1) = false := rfl
      have z2 : (((([] : List Int).length : Nat) : Int) != 0) = false := rfl
      have z3 : ((0 : Int) != 0) = false := rfl
      rw [cond_false, Bool.not_false, cond_true, hS, Option.bind_some]
      simp (disch := omega) only [z1, z2, z3, cond_false, Bool.cond_decide, if_pos g1, if_pos g2, inK_i64, cond_true, hm, n1, n2, Option.bind_some, BEq.rfl, hB]
end Go.Ab.M
end

section
/-
  ARGUMENTS AS TYPED DATA (printed by jot.py).
-/
namespace Go.Ab.M
open Go.Proofs Go.Proofs.Ytpefcgiiigdcdaa
set_option linter.unusedVariables false
def tyPair : Ty Try.prog 46 := Ty.as (Ty.struct Try.underlying46 (Flds.cons (Ty.int .i64 Try.underlying3) rfl 1 (by kernel_rfl) (Flds.last (Ty.int .i64 Try.underlying3) rfl (by kernel_rfl))))
  (fun y => Pair.mk y.1 y.2) Pair.D (fun y => inRange .i64 y.From ∧ inRange .i64 y.To) (fun _ => 0) (fun _ => rfl) (fun _ h => h) (fun _ => Nat.zero_le _)
def tyShape : Ty Try.prog 24 := Ty.as (Ty.struct Try.underlying24 (Flds.cons (Ty.int .i64 Try.underlying3) rfl 1 (by kernel_rfl) (Flds.cons (Ty.int .i64 Try.underlying3) rfl 1 (by kernel_rfl) (Flds.cons (Ty.int .i64 Try.underlying3) rfl 1 (by kernel_rfl) (Flds.last (Ty.slice Try.underlying22 tyPair (by decide +kernel) (fun _ => show 2 = _ by kernel_rfl)) rfl (by kernel_rfl))))))
  (fun y => Shape.mk y.1 y.2.1 y.2.2.1 y.2.2.2) Shape.D (fun y => inRange .i64 y.Ins ∧ inRange .i64 y.Mids ∧ inRange .i64 y.Outs ∧ (y.All.length ≤ maxLen ∧ ∀ z, z ∈ y.All → tyPair.ok z)) (fun _ => 0) (fun _ => rfl) (fun _ h => h) (fun _ => Nat.zero_le _)
end Go.Ab.M
end

section
namespace Go.Proofs.Ytpefcgiiigdcdaa.searchTells
open Go.ChangeShapes Go.WideShapes Go.ChangeAt Go.RowKit Go.Ab Go.Ab.M
set_option linter.unusedVariables false

theorem own : ownKnob Try.prog.godebug = none := by kernel_rfl

theorem core (a : Int) (b : Shape) (c : List Int) (ha : inRange .u8 a) (hb : tyShape.ok b) (hc : (c.length ≤ maxLen ∧ ∀ z, z ∈ c → inRange .i64 z)) : ACallsD Try.prog 3 0 [NI .u8 a, AG Shape.D b, SL (cI .i64) c] [] yes [] := law24_SearchTells_ok a b c true (SearchTells_true a b c ha hb hc)

set_option maxRecDepth 100000 in
theorem contract (H : Type) (enc : TypeId × Value → H) (W : World) (base : Nat) (args : Array Value) (ds gs : List (DataW H)) (before : List MemPlace)
    (hval : ∀ (j : Nat) t v, Try.f3.params[j]? = some t → args[j]? = some v → Value.okWide Try.prog W .any base t v)
    (hW : DataW.Whole enc Try.prog Try.f3.params.toList Rows.searchTellsSpec.vars false W args.toList ds gs before) :
    Calls Try.prog 3 args W fun e W' => ∃ v, e = .returned v ∧ Rows.searchTellsSpec.post enc Try.prog Try.f3 false true false false W args v W' :=
  law_contract (tb := 4) (ts := [5, 24, 25]) (Tup.one (Ty.int .u8 Try.underlying5) (fun n => .v (.int .u8 n)) (fun _ => rfl) (one_int Try.underlying5) (Tup.agg tyShape (by kernel_rfl) (Tup.one (Ty.slice Try.underlying25 (Ty.int .i64 Try.underlying3) (by decide +kernel) (fun _ => show 1 = _ by kernel_rfl)) (fun l => .sl (l.map (cI .i64))) (fun _ => rfl) (one_slice Try.underlying25) Tup.nil))) (by kernel_rfl) (by kernel_rfl) (by kernel_rfl) (by kernel_rfl) Try.underlying4 rfl (fun ds h => by
      match ds, h with
      | [d0, d1, d2], _ => rfl) hval hW
    fun y hy _ => core y.1 y.2.1 y.2.2.1 hy.1 hy.2.1 hy.2.2.1

set_option maxRecDepth 100000 in
theorem lifted (os : Os) (started : os.Started) (H : Type) (enc : TypeId × Value → H) :
    ReturnsInHanded {} Try.checked os 3 .any (Rows.searchTellsSpec.pre6 enc Try.prog Try.f3 Rows.searchTellsRow.domain false) (Rows.searchTellsSpec.post enc Try.prog Try.f3 false true false false) := by
  refine returnsInHanded_of_change (C := Try.checked) own started (by kernel_rfl) Try.func3
    (ChangeSpec.witness6 (enc := enc) (C := Try.checked) false ⟨#[], #[.int .u8 0, .agg #[.int .i64 0, .int .i64 0, .int .i64 0, .slice none 0 0], .slice none 0 0], []⟩ 8 (by kernel_rfl) (by kernel_rfl) (by kernel_rfl) (by kernel_rfl)) ?_
  intro W base args ds gs before hval hW _ _
  exact contract H enc W base args ds gs before hval hW

theorem fact0 : (Rows.searchTellsRow.wf (OpenSpec.ofChange Rows.searchTellsSpec)) = true := by kernel_rfl
theorem fact1 : (laidOutB Try.prog) = true := by kernel_rfl
theorem fact2 : (mapsRowed Try.prog) = true := by kernel_rfl
theorem fact3 : (Try.f3.params.all (Try.prog.readableRec ·)) = true := by kernel_rfl
theorem fact4 : (namedTie Try.prog Rows.searchTellsRow.named Rows.searchTellsSpec.vars) = true := by kernel_rfl
theorem fact5 : ((Rows.searchTellsRow.stops == [])) = true := by kernel_rfl
theorem fact6 : ((Try.prog.stops == [])) = true := by kernel_rfl
theorem fact7 : ((Rows.searchTellsRow.knobs == [])) = true := by kernel_rfl
theorem fact8 : ((Try.prog.stopKnobs == [])) = true := by kernel_rfl
theorem fact9 : ((Rows.searchTellsRow.inPlace == Try.prog.inPlace 3)) = true := by kernel_rfl
theorem fact10 : ((Rows.searchTellsRow.unfollowed == Try.prog.unfollowed 3)) = true := by kernel_rfl
theorem fact11 : ((Rows.searchTellsRow.recurses == Try.prog.recurses 3)) = true := by kernel_rfl
theorem fact12 : ((Rows.searchTellsRow.named == Try.prog.varsNamed 3)) = true := by kernel_rfl
theorem fact13 : ((Rows.searchTellsRow.maps == (Try.f3.params.toList ++ Rows.searchTellsSpec.plain.varTypes Try.prog).any (Try.prog.mapsRec ·))) = true := by kernel_rfl
theorem fact14 : ((Rows.searchTellsRow.ifaces == (Try.f3.params.toList ++ Rows.searchTellsSpec.plain.varTypes Try.prog).any (Try.prog.ifacesRec ·))) = true := by kernel_rfl
theorem fact15 : ((Rows.searchTellsRow.mapsOut == Try.prog.mapsAmong Try.f3.resultTypes.toList)) = true := by kernel_rfl
theorem fact16 : ((Rows.searchTellsRow.loops == (Try.f3.params.toList ++ Rows.searchTellsSpec.plain.varTypes Try.prog).any (Try.prog.loopsFrom ·))) = true := by kernel_rfl
theorem fact17 : ((Rows.searchTellsRow.wideKeys == (Try.f3.params.toList ++ Rows.searchTellsSpec.plain.varTypes Try.prog ++ Try.f3.resultTypes.toList).any (Try.prog.wideKeysFrom ·))) = true := by kernel_rfl
theorem fact18 : (Rows.searchTellsSpec.vars.all (Try.prog.varReadable ·)) = true := by kernel_rfl
theorem fact19 : (Try.f3.resultTypes.all (fun t => Try.prog.readableRec t && decide (t < Try.prog.types.size))) = true := by kernel_rfl
theorem fact20 : ((Rows.searchTellsRow.ifacesOut == Try.f3.resultTypes.toList.any (Try.prog.ifacesRec ·))) = true := by kernel_rfl
theorem fact21 : ((Rows.searchTellsRow.loopsOut == Try.f3.resultTypes.toList.any (Try.prog.loopsFrom ·))) = true := by kernel_rfl
theorem fact22 : ((Rows.searchTellsRow.plainKeys == Try.prog.plainKeys)) = true := by kernel_rfl
theorem fact23 : (Rows.searchTellsRow.shortTexts.isNone) = true := by kernel_rfl
theorem fact24 : (Try.prog.stopsHeard) = true := by kernel_rfl
theorem fact25 : (Try.prog.mayEnter) = true := by kernel_rfl
theorem fact26 : ((Rows.searchTellsRow.lifted == Try.prog.liftsFinal)) = true := by kernel_rfl
theorem fact27 : ((Try.prog.make == some Rows.searchTellsRow.make)) = true := by kernel_rfl
theorem fact28 : ((Rows.searchTellsRow.kinds == (if Rows.searchTellsRow.domain.isEmpty then [] else Try.f3.params.toList.map fun t => match Try.prog.underlying t with | some (.int k) => some k | _ => none))) = true := by kernel_rfl
theorem fact29 : ((Rows.searchTellsRow.pinned == Rows.searchTellsRow.pinnedBy)) = true := by kernel_rfl
theorem fact30 : ((Rows.searchTellsRow.veiled == (Try.f3.params.toList ++ Rows.searchTellsSpec.plain.varTypes Try.prog ++ Try.f3.resultTypes.toList).any (Try.prog.veiledRec ·))) = true := by kernel_rfl
theorem fact31 : (Rows.searchTellsRow.veiledFits Try.prog Try.f3.params.toList (Try.f3.params.toList ++ Rows.searchTellsSpec.plain.varTypes Try.prog ++ Try.f3.resultTypes.toList)) = true := by kernel_rfl
theorem and_t {a b : Bool} (h : a = true) (k : b = true) : (a && b) = true := by rw [h, k]; rfl
set_option maxRecDepth 100000 in
theorem closed : joinedFacts Try.prog 3 Try.f3 Rows.searchTellsSpec Rows.searchTellsRow = true := by
  unfold joinedFacts
  exact and_t (and_t (and_t (and_t (and_t (and_t (and_t (and_t (and_t (and_t (and_t (and_t (and_t (and_t (and_t (and_t (and_t (and_t (and_t (and_t (and_t (and_t (and_t (and_t (and_t (and_t (and_t (and_t (and_t (and_t (and_t (fact0) fact1) fact2) fact3) fact4) fact5) fact6) fact7) fact8) fact9) fact10) fact11) fact12) fact13) fact14) fact15) fact16) fact17) fact18) fact19) fact20) fact21) fact22) fact23) fact24) fact25) fact26) fact27) fact28) fact29) fact30) fact31

theorem over : Rows.searchTellsRow.holds Try.pinned (OpenSpec.ofChange Rows.searchTellsSpec) :=
  OpenClaim.holds_of_wide 3 Try.f3 rfl rfl rfl rfl rfl rfl rfl ⟨rfl, rfl, rfl, rfl, rfl⟩ rfl rfl rfl rfl rfl (by kernel_rfl) Try.func3 closed
    (of_decide_eq_true (by kernel_rfl)) (by unfold Func.isWrapper; first | (rw [if_pos (by decide +kernel)]; kernel_rfl) | (rw [if_neg (by decide +kernel)]; exact ⟨rfl, rfl⟩))
    (fun os started H enc _ => lifted os started H enc)

theorem proved : Rows.SearchTellsSaid :=
  over
end Go.Proofs.Ytpefcgiiigdcdaa.searchTells
end
