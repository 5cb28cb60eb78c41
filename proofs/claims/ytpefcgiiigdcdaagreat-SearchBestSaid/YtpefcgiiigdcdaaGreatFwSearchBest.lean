/-
  THE LAW 'SearchBest' HOLDS AT EVERY INPUT.
  Conditions: none.
-/
import Derived.Test.YtpefcgiiigdcdaaGreatLwSearchBest
import Derived.Test.YtpefcgiiigdcdaaGreatTS
import Derived.Test.YtpefcgiiigdcdaaGreatPB
import Derived.Test.YtpefcgiiigdcdaaGreatPK
import Derived.Test.YtpefcgiiigdcdaaGreatPS
import Derived.Test.YtpefcgiiigdcdaaGreatTL
import Derived.Test.YtpefcgiiigdcdaaGreatWD
section
/-
  PLAIN LAW: THROUGH WHICH VERTICES A WAY GOES, and what is left costs no less than: by the program.
-/
namespace Go.Ab.M
open Go.Proofs Go.Ab
set_option linter.unusedVariables false
set_option linter.unusedSimpArgs false

def Shape.I (s : Shape) : Nat := s.Ins.toNat
def Shape.IM (s : Shape) : Nat := (s.Ins + s.Mids).toNat
def pePair (p : Pair) : PE := ⟨p.From.toNat, p.To.toNat, 0⟩
def Shape.P (s : Shape) : List PE := s.All.map pePair
/-- does a way go through a vertex? -/
def Shape.thr (s : Shape) (v : Nat) : Bool := fr s.I s.P v && to_ s.IM s.P v
instance : Inhabited PE := ⟨⟨0, 0, 0⟩⟩
theorem nthMap {α β : Type} [Inhabited α] [Inhabited β] (f : α → β) {l : List α} {i : Nat} (h : i < l.length) : nth (l.map f) i = f (nth l i) := by
  rw [nth_get (by rw [List.length_map]; exact h), List.getElem_map, nth_get h]
theorem nthP {s : Shape} {i : Nat} (h : i < s.All.length) : nth s.P i = pePair (nth s.All i) := nthMap pePair h
theorem P_len (s : Shape) : s.P.length = s.All.length := List.length_map _
def tabB (n : Nat) (f : Nat → Bool) : List Bool := (List.range n).map f
theorem tabB_len (n : Nat) (f : Nat → Bool) : (tabB n f).length = n := tab_len
theorem tabB_nth {n : Nat} {f : Nat → Bool} {k : Nat} (h : k < n) : nth (tabB n f) k = f k := tab_nth h
theorem tabB_congr {n : Nat} {f g : Nat → Bool} (h : ∀ k, k < n → f k = g k) : tabB n f = tabB n g := tab_congr h
theorem tabB_set (n : Nat) (f : Nat → Bool) (k : Nat) (x : Bool) : (tabB n f).set k x = tabB n fun j => if j = k then x else f j := tab_set n f k x
theorem thr_l {s : Shape} (h : s.right = true) : search_through_l s 0 (List.replicate s.n false) (List.replicate s.n false) = some (tabB s.n (sIn s.I), tabB s.n (sOut s.IM)) := by
  obtain ⟨n1, n2⟩ := n_le h
  have hz := right_sized h
  have eI : (s.I : Int) = s.Ins := by unfold Shape.I; omega
  have eM : (s.IM : Int) = s.Ins + s.Mids := by unfold Shape.IM; omega
  have e0 : List.replicate s.n false = tabB s.n (fun v => decide (v < 0) && sIn s.I v) := by
    rw [tab_const]; exact tab_congr fun k _ => by rw [decide_eq_false (by omega)]; rfl
  have e1 : List.replicate s.n false = tabB s.n (fun v => decide (v < 0) && sOut s.IM v) := by
    rw [tab_const]; exact tab_congr fun k _ => by rw [decide_eq_false (by omega)]; rfl
  have e2 : (0, List.replicate s.n false, List.replicate s.n false) = (fun i : Nat => (i, tabB s.n (fun v => decide (v < i) && sIn s.I v), tabB s.n (fun v => decide (v < i) && sOut s.IM v))) 0 := by
    dsimp only
    rw [← e0, ← e1]
  unfold search_through_l
  rw [e2]
  refine loop_run (round := fun σ : Nat × List Bool × List Bool => search_through_l_rd s σ.1 σ.2.1 σ.2.2) (fun i : Nat => (i, tabB s.n (fun v => decide (v < i) && sIn s.I v), tabB s.n (fun v => decide (v < i) && sOut s.IM v))) s.n (fun i hi => ?_) ?_ (by simp only [FU]; omega)
  · have g1 : ((i : Nat) : Int) < s.Ins + s.Mids + s.Outs := by omega
    have g2 : i < (tabB s.n (fun v => decide (v < i) && sIn s.I v)).length := by rw [tabB_len]; exact hi
    have g3 : i < (tabB s.n (fun v => decide (v < i) && sOut s.IM v)).length := by rw [tabB_len]; exact hi
    have s1 : (tabB s.n (fun v => decide (v < i) && sIn s.I v)).set i (decide (((i : Nat) : Int) < s.Ins)) = tabB s.n (fun v => decide (v < i + 1) && sIn s.I v) := by
      rw [tabB_set]
      refine tabB_congr fun k _ => ?_
      by_cases c : k = i
      · subst c
        rw [if_pos rfl, decide_eq_true (by omega : k < k + 1), Bool.true_and]
        unfold sIn
        rw [decide_eq_decide]; omega
      · rw [if_neg c]
        congr 1
        rw [decide_eq_decide]; omega
    have s2 : (tabB s.n (fun v => decide (v < i) && sOut s.IM v)).set i (decide (((i : Nat) : Int) ≥ s.Ins + s.Mids)) = tabB s.n (fun v => decide (v < i + 1) && sOut s.IM v) := by
      rw [tabB_set]
      refine tabB_congr fun k _ => ?_
      by_cases c : k = i
      · subst c
        rw [if_pos rfl, decide_eq_true (by omega : k < k + 1), Bool.true_and]
        unfold sOut
        rw [decide_eq_decide]; omega
      · rw [if_neg c]
        congr 1
        rw [decide_eq_decide]; omega
    simp (disch := omega) only [search_through_l_rd, Bool.cond_decide, if_pos g1, if_pos g2, if_pos g3, inK_i64, cond_true, s1, s2]
  · have g1 : ¬ ((s.n : Nat) : Int) < s.Ins + s.Mids + s.Outs := by omega
    have f1 : tabB s.n (fun v => decide (v < s.n) && sIn s.I v) = tabB s.n (sIn s.I) := tabB_congr fun k hk => by rw [decide_eq_true hk, Bool.true_and]
    have f2 : tabB s.n (fun v => decide (v < s.n) && sOut s.IM v) = tabB s.n (sOut s.IM) := tabB_congr fun k hk => by rw [decide_eq_true hk, Bool.true_and]
    simp only [search_through_l_rd, Bool.cond_decide, if_neg g1, f1, f2]
theorem thr_rd {s : Shape} (h : s.right = true) (hl : s.All.length ≤ 2000000) {i : Nat} (hi : i < s.All.length) (A B : Nat → Bool) :
    search_through_l_2_rd s i (tabB s.n A) (tabB s.n B) = some (.inl (i + 1, tabB s.n (stepF A (nth s.P i)), tabB s.n (stepB B (nth s.P (s.All.length - 1 - i))))) := by
  obtain ⟨n1, n2⟩ := n_le h
  have hz := right_sized h
  have hj : s.All.length - 1 - i < s.All.length := by omega
  obtain ⟨p1, p2, p3, p4, p5⟩ := right_pair h (nth_mem hi)
  obtain ⟨q1, q2, q3, q4, q5⟩ := right_pair h (nth_mem hj)
  rw [nthP hi, nthP hj]
  have t1 : ((((s.All.length : Nat) : Int) - 1) - ((i : Nat) : Int)).toNat = s.All.length - 1 - i := by omega
  have g1 : ((i : Nat) : Int) < ((s.All.length : Nat) : Int) := by omega
  have g2 : (0 : Int) ≤ ((s.All.length : Nat) : Int) - 1 - ((i : Nat) : Int) := by omega
  have kF := tab_stepF (N := s.n) (f := A) (e := pePair (nth s.All i)) (by show (nth s.All i).From.toNat < s.n; omega) (by show (nth s.All i).To.toNat < s.n; omega)
  have kB := tab_stepB (N := s.n) (f := B) (e := pePair (nth s.All (s.All.length - 1 - i))) (by show (nth s.All (s.All.length - 1 - i)).From.toNat < s.n; omega) (by show (nth s.All (s.All.length - 1 - i)).To.toNat < s.n; omega)
  have kF : (tabB s.n A).set (nth s.All i).To.toNat (A (nth s.All i).To.toNat || A (nth s.All i).From.toNat) = tabB s.n (stepF A (pePair (nth s.All i))) := kF
  have kB : (tabB s.n B).set (nth s.All (s.All.length - 1 - i)).From.toNat (B (nth s.All (s.All.length - 1 - i)).From.toNat || B (nth s.All (s.All.length - 1 - i)).To.toNat) = tabB s.n (stepB B (pePair (nth s.All (s.All.length - 1 - i)))) := kB
  rw [← kF, ← kB]
  have z1 : 0 ≤ (nth s.All i).To := by omega
  have z4 : 0 ≤ (nth s.All (s.All.length - 1 - i)).To := by omega
  have l1 : (nth s.All i).To.toNat < (tabB s.n A).length := by rw [tabB_len]; omega
  have l2 : (nth s.All i).From.toNat < (tabB s.n A).length := by rw [tabB_len]; omega
  have l3 : (nth s.All (s.All.length - 1 - i)).From.toNat < (tabB s.n B).length := by rw [tabB_len]; omega
  have l4 : (nth s.All (s.All.length - 1 - i)).To.toNat < (tabB s.n B).length := by rw [tabB_len]; omega
  have v1 : nth (tabB s.n A) (nth s.All i).To.toNat = A (nth s.All i).To.toNat := tabB_nth (by omega)
  have v2 : nth (tabB s.n A) (nth s.All i).From.toNat = A (nth s.All i).From.toNat := tabB_nth (by omega)
  have v3 : nth (tabB s.n B) (nth s.All (s.All.length - 1 - i)).From.toNat = B (nth s.All (s.All.length - 1 - i)).From.toNat := tabB_nth (by omega)
  have v4 : nth (tabB s.n B) (nth s.All (s.All.length - 1 - i)).To.toNat = B (nth s.All (s.All.length - 1 - i)).To.toNat := tabB_nth (by omega)
  cases a1 : A (nth s.All i).To.toNat <;> cases b1 : B (nth s.All (s.All.length - 1 - i)).From.toNat <;>
  simp (disch := omega) only [search_through_l_2_rd, Bool.cond_decide, if_pos g1, if_pos hi, if_pos g2, t1, if_pos hj, if_pos z1, if_pos p1, if_pos q1, if_pos z4, if_pos l1, if_pos l2, if_pos l3, if_pos l4, v1, v2, v3, v4, a1, b1, cond_true, cond_false, inK_i64, Bool.true_or, Bool.false_or]
theorem thr_l2 {s : Shape} (h : s.right = true) (hl : s.All.length ≤ 2000000) : search_through_l_2 s 0 (tabB s.n (sIn s.I)) (tabB s.n (sOut s.IM)) = some (tabB s.n (fr s.I s.P), tabB s.n (to_ s.IM s.P)) := by
  have hp := P_len s
  unfold search_through_l_2
  have e2 : (0, tabB s.n (sIn s.I), tabB s.n (sOut s.IM)) = (fun i : Nat => (i, tabB s.n (foldF (sIn s.I) (s.P.take i)), tabB s.n (bkB (sOut s.IM) (s.P.drop (s.All.length - i))))) 0 := by
    dsimp only
    rw [List.take_zero, Nat.sub_zero, ← hp, List.drop_length]
    rfl
  rw [e2]
  refine loop_run (round := fun σ : Nat × List Bool × List Bool => search_through_l_2_rd s σ.1 σ.2.1 σ.2.2) (fun i : Nat => (i, tabB s.n (foldF (sIn s.I) (s.P.take i)), tabB s.n (bkB (sOut s.IM) (s.P.drop (s.All.length - i))))) s.All.length (fun i hi => ?_) ?_ (by simp only [FU]; omega)
  · dsimp only
    rw [thr_rd h hl hi, take_nth (by omega), foldF_snoc, show s.All.length - (i + 1) = s.All.length - 1 - i by omega]
    have hd : s.P.drop (s.All.length - 1 - i) = nth s.P (s.All.length - 1 - i) :: s.P.drop (s.All.length - i) := by
      rw [nth_get (by omega), List.drop_eq_getElem_cons (by omega), show s.All.length - 1 - i + 1 = s.All.length - i by omega]
    rw [hd, bkB_step]
  · have g1 : ¬ ((s.All.length : Nat) : Int) < ((s.All.length : Nat) : Int) := by omega
    dsimp only
    rw [Nat.sub_self, List.drop_zero, List.take_of_length_le (by omega)]
    simp only [search_through_l_2_rd, Bool.cond_decide, if_neg g1]
    rfl
theorem thr_l3 {s : Shape} (h : s.right = true) (A B : Nat → Bool) : search_through_l_3 s (tabB s.n A, tabB s.n B) 0 (tabB s.n A) = some (tabB s.n fun v => A v && B v) := by
  obtain ⟨n1, n2⟩ := n_le h
  have e2 : (0, tabB s.n A) = (fun i : Nat => (i, tabB s.n fun v => if v < i then A v && B v else A v)) 0 := by
    dsimp only
    congr 1
  unfold search_through_l_3
  rw [e2]
  refine loop_run (round := fun σ : Nat × List Bool => search_through_l_3_rd s (tabB s.n A, tabB s.n B) σ.1 σ.2) (fun i : Nat => (i, tabB s.n fun v => if v < i then A v && B v else A v)) s.n (fun i hi => ?_) ?_ (by simp only [FU]; omega)
  · have g1 : ((i : Nat) : Int) < s.Ins + s.Mids + s.Outs := by omega
    have g2 : i < (tabB s.n fun v => if v < i then A v && B v else A v).length := by rw [tabB_len]; exact hi
    have g3 : i < (tabB s.n B).length := by rw [tabB_len]; exact hi
    have v1 : nth (tabB s.n fun v => if v < i then A v && B v else A v) i = A i := by rw [tabB_nth hi, if_neg (by omega)]
    have v2 : nth (tabB s.n B) i = B i := tabB_nth hi
    have st : (tabB s.n fun v => if v < i then A v && B v else A v).set i (A i && B i) = tabB s.n fun v => if v < i + 1 then A v && B v else A v := by
      rw [tabB_set]
      refine tabB_congr fun k _ => ?_
      by_cases c : k = i
      · subst c
        rw [if_pos rfl, if_pos (by omega)]
      · rw [if_neg c]
        by_cases c2 : k < i
        · rw [if_pos c2, if_pos (by omega)]
        · rw [if_neg c2, if_neg (by omega)]
    dsimp only
    rw [← st]
    cases a : A i with
    | true => simp (disch := omega) only [search_through_l_3_rd, Bool.cond_decide, if_pos g1, if_pos g2, v1, a, cond_true, if_pos g3, v2, inK_i64, Bool.true_and]
    | false => simp (disch := omega) only [search_through_l_3_rd, Bool.cond_decide, if_pos g1, if_pos g2, v1, a, cond_false, cond_true, inK_i64, Bool.false_and]
  · have g1 : ¬ ((s.n : Nat) : Int) < s.Ins + s.Mids + s.Outs := by omega
    dsimp only
    have f : (tabB s.n fun v => if v < s.n then A v && B v else A v) = tabB s.n fun v => A v && B v := tabB_congr fun k hk => by rw [if_pos hk]
    rw [f]
    simp only [search_through_l_3_rd, Bool.cond_decide, if_neg g1]
theorem through_eq {s : Shape} (h : s.right = true) (hl : s.All.length ≤ 2000000) : search_through s = some (tabB s.n s.thr) := by
  obtain ⟨n1, n2⟩ := n_le h
  have hz := right_sized h
  have g1 : 0 ≤ s.Ins + s.Mids + s.Outs := by omega
  have g2 : (s.Ins + s.Mids + s.Outs).toNat ≤ 2147483648 := by omega
  have l1 := thr_l h
  unfold Shape.n at l1
  simp (disch := omega) only [search_through, Bool.cond_decide, inK_i64, cond_true, if_pos g1, if_pos g2]
  have l1' : search_through_l s 0 (List.replicate (s.Ins + s.Mids + s.Outs).toNat false) (List.replicate (s.Ins + s.Mids + s.Outs).toNat false) = some (tabB s.n (sIn s.I), tabB s.n (sOut s.IM)) := l1
  rw [l1', Option.bind_some, thr_l2 h hl, Option.bind_some, thr_l3 h, Option.bind_some]
  rfl
/-! ### the bound -/
/-- mids, each once? -/
def Shape.apart (s : Shape) (left : List Int) (i : Nat) : Bool := s.isMid (nth left i) && !decide (nth left i ∈ left.take i)
def Shape.cnt (s : Shape) (left : List Int) : Nat := (left.filter fun v => s.thr v.toNat).length
def Shape.bnd (s : Shape) (left : List Int) : Int := if s.right = true then (if (List.range left.length).all (s.apart left) = true then (s.cnt left : Int) else 0) else 0
theorem cnt_step (s : Shape) {left : List Int} {i : Nat} (hi : i < left.length) : s.cnt (left.take (i + 1)) = if s.thr (nth left i).toNat = true then s.cnt (left.take i) + 1 else s.cnt (left.take i) := by
  unfold Shape.cnt
  rw [take_nth hi, List.filter_append, List.length_append]
  generalize nth left i = v
  rw [List.filter_cons, List.filter_nil]
  cases s.thr v.toNat with
  | true => rw [if_pos rfl, if_pos rfl]; rfl
  | false => rw [if_neg Bool.false_ne_true, if_neg Bool.false_ne_true]; rfl
theorem cnt_le (s : Shape) (left : List Int) : s.cnt left ≤ left.length := List.length_filter_le _ _
theorem Bound_eq {s : Shape} (hl : s.All.length ≤ 2000000) {left : List Int} (h2 : left.length ≤ 1000000) : search_Bound s left = some (s.bnd left) := by
  unfold search_Bound Shape.bnd
  rw [shape_Right_eq hl, Option.bind_some]
  cases hr : s.right with
  | false => rw [Bool.not_false, cond_true, if_neg Bool.false_ne_true]
  | true =>
    rw [Bool.not_true, cond_false, if_pos rfl, through_eq hr hl, Option.bind_some]
    obtain ⟨n1, n2⟩ := n_le hr
    have hz := right_sized hr
    have key : search_Bound_l s left (tabB s.n s.thr) 0 0 = some (if (List.range left.length).all (s.apart left) = true then .inr (s.cnt (left.take left.length)) else .inl ()) := by
      unfold search_Bound_l
      have e0 : ((0 : Nat), (0 : Nat)) = (fun i : Nat => (s.cnt (left.take i), i)) 0 := rfl
      rw [e0]
      refine loop_allg (round := fun σ : Nat × Nat => search_Bound_l_rd s left (tabB s.n s.thr) σ.1 σ.2) (fun i : Nat => (s.cnt (left.take i), i)) (s.apart left) left.length (.inr (s.cnt (left.take left.length))) (.inl ()) (fun i hi hp => ?_) (fun i hi hp => ?_) ?_ (by simp only [FU]; omega)
      · unfold Shape.apart Shape.isMid at hp
        simp only [Bool.and_eq_true, decide_eq_true_eq, Bool.not_eq_true', decide_eq_false_iff_not] at hp
        obtain ⟨⟨m1, m2⟩, m3⟩ := hp
        have g1 : ((i : Nat) : Int) < (left.length : Int) := by omega
        have g2 : ¬ nth left i < s.Ins := by omega
        have g3 : ¬ nth left i ≥ s.Ins + s.Mids := by omega
        have hc := Contains_eq (s := left.take i) (by rw [List.length_take]; omega) (nth left i)
        rw [decide_eq_false m3] at hc
        have g4 : 0 ≤ nth left i := by omega
        have g5 : (nth left i).toNat < (tabB s.n s.thr).length := by rw [tabB_len]; omega
        have v1 : nth (tabB s.n s.thr) (nth left i).toNat = s.thr (nth left i).toNat := tabB_nth (by omega)
        have c0 := cnt_le s (left.take i)
        rw [List.length_take] at c0
        have g6 : i ≤ left.length := by omega
        dsimp only
        rw [cnt_step s hi]
        cases ht : s.thr (nth left i).toNat with
        | true =>
          rw [if_pos rfl]
          simp (disch := omega) only [search_Bound_l_rd, Bool.cond_decide, if_pos g1, if_pos hi, if_neg g2, if_neg g3, inK_i64, cond_true, cond_false, if_pos (Nat.zero_le i), if_pos g6, hc, Option.bind_some, if_pos g4, if_pos g5, v1, ht]
        | false =>
          rw [if_neg Bool.false_ne_true]
          simp (disch := omega) only [search_Bound_l_rd, Bool.cond_decide, if_pos g1, if_pos hi, if_neg g2, if_neg g3, inK_i64, cond_true, cond_false, if_pos (Nat.zero_le i), if_pos g6, hc, Option.bind_some, if_pos g4, if_pos g5, v1, ht]
      · unfold Shape.apart Shape.isMid at hp
        have g1 : ((i : Nat) : Int) < (left.length : Int) := by omega
        have g6 : i ≤ left.length := by omega
        dsimp only
        by_cases g2 : nth left i < s.Ins
        · simp only [search_Bound_l_rd, Bool.cond_decide, if_pos g1, if_pos hi, if_pos g2]
        by_cases g3 : nth left i ≥ s.Ins + s.Mids
        · simp (disch := omega) only [search_Bound_l_rd, Bool.cond_decide, if_pos g1, if_pos hi, if_neg g2, if_pos g3, inK_i64, cond_true]
        · have m3 : nth left i ∈ left.take i := by
            rw [decide_eq_true (by omega : s.Ins ≤ nth left i), decide_eq_true (by omega : nth left i < s.Ins + s.Mids), Bool.true_and, Bool.true_and] at hp
            by_cases hm : nth left i ∈ left.take i
            · exact hm
            · rw [decide_eq_false hm] at hp; cases hp
          have hc := Contains_eq (s := left.take i) (by rw [List.length_take]; omega) (nth left i)
          rw [decide_eq_true m3] at hc
          simp (disch := omega) only [search_Bound_l_rd, Bool.cond_decide, if_pos g1, if_pos hi, if_neg g2, if_neg g3, inK_i64, cond_true, if_pos (Nat.zero_le i), if_pos g6, hc, Option.bind_some]
      · have g1 : ¬ ((left.length : Nat) : Int) < (left.length : Int) := by omega
        simp only [search_Bound_l_rd, Bool.cond_decide, if_neg g1]
    rw [key, Option.bind_some, List.take_length]
    by_cases ha : (List.range left.length).all (s.apart left) = true
    · rw [if_pos ha, if_pos ha]; rfl
    · rw [if_neg ha, if_neg ha]; rfl
end Go.Ab.M
end

section
/-
  PLAIN LAW: A VERTEX THAT GOES TAKES ITS PART OF THE BOUND; what is left costs no less than it.
-/
namespace Go.Ab.M
open Go.Proofs Go.Ab
set_option linter.unusedVariables false
set_option linter.unusedSimpArgs false

theorem P_fwd {s : Shape} (h : s.right = true) : Fwd s.P := by
  have hr := h
  simp only [Shape.right, Bool.and_eq_true, List.all_eq_true, List.mem_range] at hr
  constructor
  · unfold Shape.P
    rw [List.pairwise_map]
    have hp : s.All.Pairwise (fun a b : Pair => a.From < b.From ∨ (a.From = b.From ∧ a.To < b.To)) := by
      refine (pair_adj (R := fun a b : Pair => a.From < b.From ∨ (a.From = b.From ∧ a.To < b.To)) (fun a b c h1 h2 => by omega)).2 fun i hi => ?_
      have := hr.2 i hi
      simp only [Shape.fits, Bool.and_eq_true, Bool.or_eq_true, decide_eq_true_eq] at this
      omega
    refine List.Pairwise.imp_of_mem (fun {a b} ha hb hab => ?_) hp
    have ra := right_pair h ha
    have rb := right_pair h hb
    show a.From.toNat ≤ b.From.toNat
    omega
  · intro e he
    obtain ⟨p, hp, rfl⟩ := List.mem_map.1 he
    have := right_pair h hp
    show p.From.toNat < p.To.toNat
    omega
theorem mem_P {s : Shape} (h : s.right = true) {e : PE} : e ∈ s.P ↔ ∃ a b : Nat, e = ⟨a, b, 0⟩ ∧ s.has (a : Int) (b : Int) = true := by
  unfold Shape.P
  rw [List.mem_map]
  constructor
  · rintro ⟨p, hp, rfl⟩
    have := right_pair h hp
    refine ⟨p.From.toNat, p.To.toNat, rfl, ?_⟩
    unfold Shape.has
    rw [decide_eq_true_eq, Int.toNat_of_nonneg (by omega), Int.toNat_of_nonneg (by omega)]
    exact hp
  · rintro ⟨a, b, rfl, hh⟩
    unfold Shape.has at hh
    rw [decide_eq_true_eq] at hh
    exact ⟨_, hh, rfl⟩
theorem fr_iff {s : Shape} (h : s.right = true) {v : Nat} : fr s.I s.P v = true ↔ v < s.I ∨ ∃ u : Nat, s.has (u : Int) (v : Int) = true ∧ fr s.I s.P u = true := by
  have e := foldF_last (l := s.P) (sIn s.I) v s.P [] (List.append_nil _) (P_fwd h)
  have e' : fr s.I s.P v = (sIn s.I v || (s.P.filter fun e => decide (e.t = v)).any fun e => fr s.I s.P e.f) := e
  rw [e', Bool.or_eq_true, List.any_eq_true]
  constructor
  · rintro (q | ⟨e, he, hf⟩)
    · exact .inl (of_decide_eq_true q)
    · rw [List.mem_filter, decide_eq_true_eq] at he
      obtain ⟨a, b, rfl, hh⟩ := (mem_P h).1 he.1
      have hb : b = v := he.2
      subst hb
      exact .inr ⟨a, hh, hf⟩
  · rintro (q | ⟨u, hh, hf⟩)
    · exact .inl (decide_eq_true q)
    · exact .inr ⟨⟨u, v, 0⟩, List.mem_filter.2 ⟨(mem_P h).2 ⟨u, v, rfl, hh⟩, decide_eq_true rfl⟩, hf⟩
theorem to_iff {s : Shape} (h : s.right = true) {v : Nat} : to_ s.IM s.P v = true ↔ s.IM ≤ v ∨ ∃ u : Nat, s.has (v : Int) (u : Int) = true ∧ to_ s.IM s.P u = true := by
  have e := bkB_first (l := s.P) (sOut s.IM) v (r := s.P) (p := []) rfl (P_fwd h)
  have e' : to_ s.IM s.P v = (sOut s.IM v || (s.P.filter fun e => decide (e.f = v)).any fun e => to_ s.IM s.P e.t) := e
  rw [e', Bool.or_eq_true, List.any_eq_true]
  constructor
  · rintro (q | ⟨e, he, hf⟩)
    · exact .inl (of_decide_eq_true q)
    · rw [List.mem_filter, decide_eq_true_eq] at he
      obtain ⟨a, b, rfl, hh⟩ := (mem_P h).1 he.1
      have hb : a = v := he.2
      subst hb
      exact .inr ⟨b, hh, hf⟩
  · rintro (q | ⟨u, hh, hf⟩)
    · exact .inl (decide_eq_true q)
    · exact .inr ⟨⟨v, u, 0⟩, List.mem_filter.2 ⟨(mem_P h).2 ⟨v, u, rfl, hh⟩, decide_eq_true rfl⟩, hf⟩
/-! ### a vertex goes -/
theorem next_has {s : Shape} (h : s.right = true) {w : Nat} (hm : s.isMid (w : Int) = true) {a b : Nat} : (s.next (w : Int)).1.has (a : Int) (b : Int) = true ↔ a ≠ w ∧ b ≠ w ∧ (s.has (a : Int) (b : Int) = true ∨ (s.has (a : Int) (w : Int) = true ∧ s.has (w : Int) (b : Int) = true)) := by
  rw [next_eq h hm]
  show decide (Pair.mk (a : Int) (b : Int) ∈ pairsTo s.n (nextP s (w : Int).toNat) s.n) = true ↔ _
  rw [decide_eq_true_eq, mem_pairsTo, Int.toNat_natCast]
  constructor
  · rintro ⟨a', b', _, _, hP, e⟩
    have e1 : (a : Int) = (a' : Int) := congrArg Pair.From e
    have e2 : (b : Int) = (b' : Int) := congrArg Pair.To e
    have e1 : a = a' := by omega
    have e2 : b = b' := by omega
    subst e1
    subst e2
    simp only [nextP, Bool.and_eq_true, Bool.or_eq_true, decide_eq_true_eq] at hP
    exact ⟨hP.1.1, hP.1.2, hP.2⟩
  · rintro ⟨h1, h2, h3⟩
    have hb : a < b ∧ b < s.n := by
      rcases h3 with h3 | ⟨h3, h4⟩
      · exact has_lt h h3
      · have := has_lt h h3
        have := has_lt h h4
        omega
    refine ⟨a, b, by omega, hb.2, ?_, rfl⟩
    simp only [nextP, Bool.and_eq_true, Bool.or_eq_true, decide_eq_true_eq]
    exact ⟨⟨h1, h2⟩, h3⟩
theorem next_I {s : Shape} (h : s.right = true) {w : Nat} (hm : s.isMid (w : Int) = true) : (s.next (w : Int)).1.I = s.I ∧ (s.next (w : Int)).1.IM = s.IM := by
  obtain ⟨e1, e2, e3, e4, e5⟩ := next_n h hm
  unfold Shape.I Shape.IM
  rw [e2, e3]
  exact ⟨rfl, rfl⟩
theorem mid_I {s : Shape} (h : s.right = true) {w : Nat} (hm : s.isMid (w : Int) = true) : s.I ≤ w ∧ w < s.IM := by
  have hz := right_sized h
  simp only [Shape.isMid, Bool.and_eq_true, decide_eq_true_eq] at hm
  unfold Shape.I Shape.IM
  omega
theorem fr_next {s : Shape} (h : s.right = true) {w : Nat} (hm : s.isMid (w : Int) = true) : ∀ (k v : Nat), v < k → v ≠ w → (fr (s.next (w : Int)).1.I (s.next (w : Int)).1.P v = true ↔ fr s.I s.P v = true)
  | 0, v, hv, _ => by omega
  | k + 1, v, hv, hne => by
    have h' := next_right h hm
    have hI := (next_I h hm).1
    have hw := mid_I h hm
    rw [fr_iff h', fr_iff h, hI]
    constructor
    · rintro (q | ⟨u, hh, hf⟩)
      · exact .inl q
      · obtain ⟨a1, a2, a3⟩ := (next_has h hm).1 hh
        rw [← hI] at hf
        have hlt := has_lt h' hh
        have hfu := (fr_next h hm k u (by omega) a1).1 hf
        rcases a3 with a3 | ⟨a3, a4⟩
        · exact .inr ⟨u, a3, hfu⟩
        · exact .inr ⟨w, a4, (fr_iff h).2 (.inr ⟨u, a3, hfu⟩)⟩
    · rintro (q | ⟨u, hh, hf⟩)
      · exact .inl q
      · have hlt := has_lt h hh
        by_cases c : u = w
        · subst c
          rcases (fr_iff h).1 hf with q | ⟨x, hx, hfx⟩
          · omega
          · have hlx := has_lt h hx
            have := (fr_next h hm k x (by omega) (by omega)).2 hfx
            rw [hI] at this
            exact .inr ⟨x, (next_has h hm).2 ⟨by omega, hne, .inr ⟨hx, hh⟩⟩, this⟩
        · have := (fr_next h hm k u (by omega) c).2 hf
          rw [hI] at this
          exact .inr ⟨u, (next_has h hm).2 ⟨c, hne, .inl hh⟩, this⟩
theorem to_next {s : Shape} (h : s.right = true) {w : Nat} (hm : s.isMid (w : Int) = true) : ∀ (k v : Nat), s.n ≤ v + k → v ≠ w → (to_ (s.next (w : Int)).1.IM (s.next (w : Int)).1.P v = true ↔ to_ s.IM s.P v = true)
  | 0, v, hv, hne => by
    have h' := next_right h hm
    have hI := (next_I h hm).2
    have hn := (next_n h hm).1
    rw [to_iff h', to_iff h, hI]
    constructor
    · rintro (q | ⟨u, hh, hf⟩)
      · exact .inl q
      · have := has_lt h' hh
        omega
    · rintro (q | ⟨u, hh, hf⟩)
      · exact .inl q
      · have := has_lt h hh
        omega
  | k + 1, v, hv, hne => by
    have h' := next_right h hm
    have hI := (next_I h hm).2
    have hw := mid_I h hm
    rw [to_iff h', to_iff h, hI]
    constructor
    · rintro (q | ⟨u, hh, hf⟩)
      · exact .inl q
      · obtain ⟨a1, a2, a3⟩ := (next_has h hm).1 hh
        rw [← hI] at hf
        have hlt := has_lt h' hh
        have hfu := (to_next h hm k u (by omega) a2).1 hf
        rcases a3 with a3 | ⟨a3, a4⟩
        · exact .inr ⟨u, a3, hfu⟩
        · exact .inr ⟨w, a3, (to_iff h).2 (.inr ⟨u, a4, hfu⟩)⟩
    · rintro (q | ⟨u, hh, hf⟩)
      · exact .inl q
      · have hlt := has_lt h hh
        by_cases c : u = w
        · subst c
          rcases (to_iff h).1 hf with q | ⟨x, hx, hfx⟩
          · omega
          · have hlx := has_lt h hx
            have := (to_next h hm k x (by omega) (by omega)).2 hfx
            rw [hI] at this
            exact .inr ⟨x, (next_has h hm).2 ⟨hne, by omega, .inr ⟨hh, hx⟩⟩, this⟩
        · have := (to_next h hm k u (by omega) c).2 hf
          rw [hI] at this
          exact .inr ⟨u, (next_has h hm).2 ⟨hne, c, .inl hh⟩, this⟩
theorem thr_next {s : Shape} (h : s.right = true) {w : Nat} (hm : s.isMid (w : Int) = true) {v : Nat} (hv : v ≠ w) : (s.next (w : Int)).1.thr v = s.thr v := by
  unfold Shape.thr
  rw [Bool.eq_iff_iff, Bool.and_eq_true, Bool.and_eq_true, fr_next h hm (v + 1) v (by omega) hv, to_next h hm s.n v (by omega) hv]
theorem cost_thr {s : Shape} (h : s.right = true) {w : Nat} (hm : s.isMid (w : Int) = true) : 0 ≤ s.cost (w : Int) ∧ (s.thr w = true → 1 ≤ s.cost (w : Int)) := by
  have e : s.cost (w : Int) = ((insOf s.All (w : Int)).length : Int) * ((outsOf s.All (w : Int)).length : Int) := by
    unfold Shape.cost
    rw [if_pos ⟨h, hm⟩]
  have hw := mid_I h hm
  rw [e, ← Int.natCast_mul]
  refine ⟨by omega, fun ht => ?_⟩
  unfold Shape.thr at ht
  rw [Bool.and_eq_true] at ht
  have i1 : 1 ≤ (insOf s.All (w : Int)).length := by
    rcases (fr_iff h).1 ht.1 with q | ⟨u, hu, _⟩
    · omega
    · exact List.length_pos_of_mem (ins_has.2 hu)
  have o1 : 1 ≤ (outsOf s.All (w : Int)).length := by
    rcases (to_iff h).1 ht.2 with q | ⟨u, hu, _⟩
    · omega
    · exact List.length_pos_of_mem (outs_has.2 hu)
  have := Nat.mul_le_mul i1 o1
  omega
/-! ### mids that are left -/
structure Lft (s : Shape) (left : List Int) : Prop where
  nd : left.Nodup
  mid : ∀ v, v ∈ left → s.isMid v = true
theorem apart_all {s : Shape} {left : List Int} (h : Lft s left) : (List.range left.length).all (s.apart left) = true := by
  rw [List.all_eq_true]
  intro i hi
  have hi := List.mem_range.1 hi
  unfold Shape.apart
  rw [h.mid _ (nth_mem hi), Bool.true_and, Bool.not_eq_true', decide_eq_false_iff_not]
  intro hm
  obtain ⟨j, hj, e⟩ := List.getElem_of_mem hm
  rw [List.length_take] at hj
  rw [List.getElem_take, nth_get hi] at e
  have := (List.getElem_inj h.nd).1 e
  omega
theorem bnd_left {s : Shape} (h : s.right = true) {left : List Int} (hf : Lft s left) : s.bnd left = (s.cnt left : Int) := by
  unfold Shape.bnd
  rw [if_pos h, if_pos (apart_all hf)]
theorem Lft.natw {s : Shape} (h : s.right = true) {v : Int} {r : List Int} (hf : Lft s (v :: r)) : ∃ w : Nat, v = (w : Int) ∧ s.isMid (w : Int) = true := by
  have hm := hf.mid v (by simp)
  have hz := right_sized h
  have hm' := hm
  simp only [Shape.isMid, Bool.and_eq_true, decide_eq_true_eq] at hm'
  refine ⟨v.toNat, by omega, ?_⟩
  rw [Int.toNat_of_nonneg (by omega)]
  exact hm
theorem Lft.next {s : Shape} (h : s.right = true) {v : Int} {r : List Int} (hf : Lft s (v :: r)) : Lft (s.next v).1 r := by
  obtain ⟨w, rfl, hm⟩ := hf.natw h
  obtain ⟨e1, e2, e3, e4, e5⟩ := next_n h hm
  refine ⟨(List.nodup_cons.1 hf.nd).2, fun u hu => ?_⟩
  have := hf.mid u (by simp [hu])
  unfold Shape.isMid at this ⊢
  rw [e2, e3]
  exact this
theorem cnt_cons {s : Shape} (h : s.right = true) {v : Int} {r : List Int} (hf : Lft s (v :: r)) : s.cnt (v :: r) = (if s.thr v.toNat = true then 1 else 0) + (s.next v).1.cnt r := by
  obtain ⟨w, rfl, hm⟩ := hf.natw h
  have e : (r.filter fun v => s.thr v.toNat) = r.filter fun v => (s.next (w : Int)).1.thr v.toNat := by
    refine List.filter_congr fun u hu => ?_
    have hne : u ≠ (w : Int) := fun e => (List.nodup_cons.1 hf.nd).1 (by rw [← e]; exact hu)
    have hz := right_sized h
    have hmu := hf.mid u (by simp [hu])
    simp only [Shape.isMid, Bool.and_eq_true, decide_eq_true_eq] at hmu
    exact (thr_next h hm (by omega)).symm
  unfold Shape.cnt
  rw [← e, List.filter_cons]
  cases s.thr (w : Int).toNat with
  | true => simp only [if_true, List.length_cons]; omega
  | false => simp
theorem steps_cons' (s : Shape) (v : Int) (r : List Int) : ∀ k, stepsOf s (v :: r) (k + 1) = ((s.next v).2.1 + (stepsOf (s.next v).1 r k).1, (stepsOf (s.next v).1 r k).2)
  | 0 => by
    show ((0 : Int) + (s.next (nth (v :: r) 0)).2.1, (s.next (nth (v :: r) 0)).1) = ((s.next v).2.1 + 0, (s.next v).1)
    rw [show nth (v :: r) 0 = v from rfl, Int.zero_add, Int.add_zero]
  | k + 1 => by
    have ih := steps_cons' s v r k
    have e : nth (v :: r) (k + 1) = nth r k := by simp [nth]
    rw [stepsOf, ih, e]
    show (_, _) = ((s.next v).2.1 + ((stepsOf (s.next v).1 r k).1 + _), _)
    rw [Int.add_assoc]
    rfl
theorem next_tells {s : Shape} (h : s.right = true) {v : Int} {r : List Int} (hf : Lft s (v :: r)) : (s.next v).2.2 = 0 ∧ (s.next v).2.1 = s.cost v ∧ ((if s.thr v.toNat = true then 1 else 0 : Nat) : Int) ≤ s.cost v := by
  obtain ⟨w, rfl, hm⟩ := hf.natw h
  obtain ⟨c1, c2⟩ := cost_thr h hm
  rw [next_eq h hm]
  refine ⟨rfl, rfl, ?_⟩
  rw [Int.toNat_natCast]
  split
  · rename_i ht; have := c2 ht; omega
  · omega
/-- WHAT IS LEFT COSTS NO LESS THAN ITS BOUND -/
theorem bound_le : ∀ (left : List Int) (s : Shape), s.right = true → Lft s left → (s.cnt left : Int) ≤ (stepsOf s left left.length).1
  | [], s, h, hf => Int.le_refl _
  | v :: r, s, h, hf => by
    obtain ⟨w, e, hm⟩ := hf.natw h
    obtain ⟨t1, t2, t3⟩ := next_tells h hf
    have hr : (s.next v).1.right = true := by rw [e]; exact next_right h hm
    have ih := bound_le r (s.next v).1 hr (hf.next h)
    rw [cnt_cons h hf, List.length_cons, steps_cons' s v r r.length]
    show (((if s.thr v.toNat = true then 1 else 0) + (s.next v).1.cnt r : Nat) : Int) ≤ (s.next v).2.1 + (stepsOf (s.next v).1 r r.length).1
    rw [t2]
    omega
end Go.Ab.M
end

section
/-
  PLAIN LAW: WHAT A SEARCH FINDS: it costs what it says, and no less was missed where it tells that it went through all.
-/
namespace Go.Ab.M
open Go.Proofs Go.Ab
set_option linter.unusedVariables false
set_option linter.unusedSimpArgs false

structure Sz (s : Shape) : Prop where
  r : s.right = true
  n : s.n * s.n ≤ 1000
  l : s.All.length ≤ 1000
theorem Sz.next {s : Shape} (h : Sz s) {v : Int} (hm : s.isMid v = true) : Sz (s.next v).1 := by
  obtain ⟨e1, e2, e3, e4, e5⟩ := next_n h.r hm
  have := h.n
  exact ⟨next_right h.r hm, by rw [e1]; exact h.n, by omega⟩
def costOf (s : Shape) (ord : List Int) : Int := (stepsOf s ord ord.length).1
theorem costOf_nil (s : Shape) : costOf s [] = 0 := rfl
theorem costOf_cons (s : Shape) (v : Int) (r : List Int) : costOf s (v :: r) = (s.next v).2.1 + costOf (s.next v).1 r := by
  unfold costOf
  rw [List.length_cons, steps_cons']
theorem Lft.perm {s : Shape} {l m : List Int} (h : Lft s l) (p : m.Perm l) : Lft s m := ⟨(p.nodup_iff).2 h.nd, fun v hv => h.mid v (p.mem_iff.1 hv)⟩
theorem cnt_perm (s : Shape) {l m : List Int} (p : m.Perm l) : s.cnt m = s.cnt l := (p.filter _).length_eq
/-- nothing that is left costs less than the bound -/
theorem bnd_costs {s : Shape} (h : Sz s) {left ord : List Int} (hf : Lft s left) (p : ord.Perm left) : s.bnd left ≤ costOf s ord := by
  rw [bnd_left h.r hf, ← cnt_perm s p]
  exact bound_le ord s h.r (hf.perm p)
/-- how many beginnings there are -/
def nodesN : Nat → Nat
  | 0 => 1
  | k + 1 => 1 + (k + 1) * nodesN k
theorem Lft.at {s : Shape} {left : List Int} (hf : Lft s left) {i : Nat} (hi : i < left.length) : Lft s (nth left i :: left.eraseIdx i) := hf.perm (perm_erase hi).symm
theorem erase_len {left : List Int} {i : Nat} (hi : i < left.length) : (left.eraseIdx i).length + 1 = left.length := by
  rw [List.length_eraseIdx, if_pos hi]; omega
/-- what is known of what was found, behind a beginning -/
structure Res (f g : Found) (s : Shape) (sofar left : List Int) (c : Int) : Prop where
  le : g.cost ≤ f.cost
  bl : f.budget - (nodesN left.length : Int) ≤ g.budget
  bu : g.budget ≤ f.budget
  b0 : 0 ≤ g.budget
  keep : (nodesN left.length : Int) ≤ f.budget → g.all = f.all
  opt : g.all = true → f.all = true ∧ ∀ ord : List Int, ord.Perm left → g.cost ≤ c + costOf s ord
  alt : (g.cost = f.cost ∧ g.l = f.l) ∨ ∃ ord : List Int, ord.Perm left ∧ g.cost = c + costOf s ord ∧ g.l = sofar ++ ord
/-- the vertices that are left go one by one -/
structure Mid (f : Found) (s : Shape) (sofar left : List Int) (c : Int) (i : Nat) (g : Found) : Prop where
  le : g.cost ≤ f.cost
  bl : f.budget - 1 - ((i * nodesN (left.length - 1) : Nat) : Int) ≤ g.budget
  bu : g.budget ≤ f.budget
  b0 : 0 ≤ g.budget
  keep : (nodesN left.length : Int) ≤ f.budget → g.all = f.all
  opt : g.all = true → f.all = true ∧ ∀ j, j < i → ∀ ord : List Int, ord.Perm (left.eraseIdx j) → g.cost ≤ c + (s.next (nth left j)).2.1 + costOf (s.next (nth left j)).1 ord
  alt : (g.cost = f.cost ∧ g.l = f.l) ∨ ∃ ord : List Int, ord.Perm left ∧ g.cost = c + costOf s ord ∧ g.l = sofar ++ ord
theorem nodes_pos (k : Nat) : 1 ≤ nodesN k := by
  cases k with
  | zero => exact Nat.le_refl _
  | succ k => unfold nodesN; omega
theorem Mid.done {f g : Found} {s : Shape} {sofar left : List Int} {c : Int} (hne : 0 < left.length) (h : Mid f s sofar left c left.length g) : Res f g s sofar left c := by
  have hn : nodesN left.length = 1 + left.length * nodesN (left.length - 1) := by
    obtain ⟨m, hm⟩ : ∃ m, left.length = m + 1 := ⟨left.length - 1, by omega⟩
    rw [hm]; rfl
  have bl := h.bl
  refine ⟨h.le, by rw [hn]; omega, h.bu, h.b0, h.keep, fun ha => ⟨(h.opt ha).1, fun ord p => ?_⟩, h.alt⟩
  cases ord with
  | nil => have := p.length_eq; simp only [List.length_nil] at this; omega
  | cons v r =>
    obtain ⟨j, hj, e⟩ := List.getElem_of_mem (p.mem_iff.1 (List.mem_cons_self (a := v) (l := r)))
    have e' : nth left j = v := by rw [nth_get hj]; exact e
    have p2 : (v :: r).Perm (v :: left.eraseIdx j) := p.trans (by rw [← e']; exact perm_erase hj)
    have := (h.opt ha).2 j hj r (List.perm_cons v |>.1 p2)
    rw [costOf_cons, ← e']
    omega
theorem Mid.skip {f g : Found} {s : Shape} (hz : Sz s) {sofar left : List Int} (hf : Lft s left) {c : Int} {i : Nat} (hi : i < left.length) (h : Mid f s sofar left c i g)
    (hb : c + (s.next (nth left i)).2.1 + (s.next (nth left i)).1.bnd (left.eraseIdx i) ≥ g.cost) : Mid f s sofar left c (i + 1) g := by
  have hi1 := hf.at hi
  obtain ⟨w, e, hm⟩ := hi1.natw hz.r
  have hm : s.isMid (nth left i) = true := by rw [e]; exact hm
  have bl := h.bl
  have e1 : (i + 1) * nodesN (left.length - 1) = i * nodesN (left.length - 1) + nodesN (left.length - 1) := by rw [Nat.add_mul, Nat.one_mul]
  refine ⟨h.le, by rw [e1]; omega, h.bu, h.b0, h.keep, fun ha => ⟨(h.opt ha).1, fun j hj ord p => ?_⟩, h.alt⟩
  by_cases cj : j < i
  · exact (h.opt ha).2 j cj ord p
  · obtain rfl : j = i := by omega
    have := bnd_costs (hz.next hm) (hi1.next hz.r) p
    omega
theorem Mid.take {f g x : Found} {s : Shape} (hz : Sz s) {sofar left : List Int} (hf : Lft s left) {c : Int} {i : Nat} (hi : i < left.length) (h : Mid f s sofar left c i g)
    (hx : Res g x (s.next (nth left i)).1 (sofar ++ [nth left i]) (left.eraseIdx i) (c + (s.next (nth left i)).2.1)) : Mid f s sofar left c (i + 1) x := by
  have bl := h.bl
  have xl := hx.bl
  have hl := erase_len hi
  have hl' : (left.eraseIdx i).length = left.length - 1 := by omega
  rw [hl'] at xl
  have e1 : (i + 1) * nodesN (left.length - 1) = i * nodesN (left.length - 1) + nodesN (left.length - 1) := by rw [Nat.add_mul, Nat.one_mul]
  have hn : nodesN left.length = 1 + left.length * nodesN (left.length - 1) := by
    obtain ⟨m, hm⟩ : ∃ m, left.length = m + 1 := ⟨left.length - 1, by omega⟩
    rw [hm]; rfl
  have e2 : (i + 1) * nodesN (left.length - 1) ≤ left.length * nodesN (left.length - 1) := Nat.mul_le_mul_right _ hi
  have hle := hx.le
  refine ⟨by have := h.le; omega, by rw [e1]; omega, by have := h.bu; have := hx.bu; omega, hx.b0, fun hk => ?_, fun ha => ?_, ?_⟩
  · rw [hx.keep (by rw [hl']; rw [hn] at hk; omega), h.keep hk]
  · obtain ⟨a1, a2⟩ := hx.opt ha
    obtain ⟨b1, b2⟩ := h.opt a1
    refine ⟨b1, fun j hj ord p => ?_⟩
    by_cases cj : j < i
    · have := b2 j cj ord p; omega
    · obtain rfl : j = i := by omega
      exact a2 ord p
  · rcases hx.alt with ⟨q1, q2⟩ | ⟨ord, q1, q2, q3⟩
    · rw [q1, q2]; exact h.alt
    · refine .inr ⟨nth left i :: ord, ?_, ?_, ?_⟩
      · exact ((List.perm_cons _).2 q1).trans (perm_erase hi).symm
      · rw [q2, costOf_cons]; omega
      · rw [q3, List.append_assoc]; rfl
/-- the loop over what is left -/
theorem loop_left {f : Found} {s : Shape} (hz : Sz s) {sofar left : List Int} (hf : Lft s left) (hlen : left.length ≤ 1000) {c : Int} (G : Found → Nat → Option Found)
    (hG : ∀ g i, i < left.length → 0 ≤ g.budget → g.budget ≤ 1000000 → ∃ x, G g i = some x ∧ Res g x (s.next (nth left i)).1 (sofar ++ [nth left i]) (left.eraseIdx i) (c + (s.next (nth left i)).2.1))
    {round : Nat × List Int × Int × Int × Bool → Option ((Nat × List Int × Int × Int × Bool) ⊕ (List Int × Int × Int × Bool))}
    (hr : ∀ i o o1 o3 o4, i < left.length → round (i, o, o1, o3, o4) = if c + (s.next (nth left i)).2.1 + (s.next (nth left i)).1.bnd (left.eraseIdx i) ≥ o1 then some (.inl (i + 1, o, o1, o3, o4)) else (G ⟨o, o1, o3, o4⟩ i).bind fun x => some (.inl (i + 1, x.l, x.cost, x.budget, x.all)))
    (he : ∀ o o1 o3 o4, round (left.length, o, o1, o3, o4) = some (.inr (o, o1, o3, o4))) (hfb : f.budget ≤ 1000000)
    {g : Found} (h0 : Mid f s sofar left c 0 g) : ∃ x : Found, loopN round FU (0, g.l, g.cost, g.budget, g.all) = some (x.l, x.cost, x.budget, x.all) ∧ Mid f s sofar left c left.length x := by
  have key : ∃ r : List Int × Int × Int × Bool, loopN round FU (0, g.l, g.cost, g.budget, g.all) = some r ∧ Mid f s sofar left c left.length ⟨r.1, r.2.1, r.2.2.1, r.2.2.2⟩ := by
    refine loop_inv (fun i σ => σ.1 = i ∧ Mid f s sofar left c i ⟨σ.2.1, σ.2.2.1, σ.2.2.2.1, σ.2.2.2.2⟩) left.length _ ⟨rfl, h0⟩ ?_ ?_ (by simp only [FU]; omega)
    · rintro i ⟨i', o, o1, o3, o4⟩ hi ⟨rfl, hm⟩
      dsimp only at hi hm ⊢
      rw [hr i' o o1 o3 o4 hi]
      by_cases c1 : c + (s.next (nth left i')).2.1 + (s.next (nth left i')).1.bnd (left.eraseIdx i') ≥ o1
      · exact ⟨_, if_pos c1, rfl, hm.skip hz hf hi c1⟩
      · obtain ⟨x, hx, rx⟩ := hG ⟨o, o1, o3, o4⟩ i' hi hm.b0 (by have := hm.bu; omega)
        refine ⟨(i' + 1, x.l, x.cost, x.budget, x.all), ?_, rfl, hm.take hz hf hi rx⟩
        rw [if_neg c1, hx]
        rfl
    · rintro ⟨i', o, o1, o3, o4⟩ ⟨e, hm⟩
      have e : i' = left.length := e
      subst e
      exact ⟨_, he _ _ _ _, hm⟩
  obtain ⟨r, h1, h2⟩ := key
  exact ⟨⟨r.1, r.2.1, r.2.2.1, r.2.2.2⟩, h1, h2⟩
/-- what a round computes -/
theorem round_parts {s : Shape} (hz : Sz s) {left : List Int} (hf : Lft s left) (hlen : left.length ≤ 1000) {i : Nat} (hi : i < left.length) :
    shape_Next s (nth left i) = some (s.next (nth left i)) ∧ slices_Clone_int_int_2 left = some left ∧ ints_cut left ((i : Nat) : Int) (((i : Nat) : Int) + 1) = some (left.eraseIdx i) ∧
      search_Bound (s.next (nth left i)).1 (left.eraseIdx i) = some ((s.next (nth left i)).1.bnd (left.eraseIdx i)) ∧ 0 ≤ (s.next (nth left i)).2.1 ∧ (s.next (nth left i)).2.1 ≤ 4000000000000 ∧
      0 ≤ (s.next (nth left i)).1.bnd (left.eraseIdx i) ∧ (s.next (nth left i)).1.bnd (left.eraseIdx i) ≤ 1000 := by
  have hl := hz.l
  have hi1 := hf.at hi
  obtain ⟨w, e, hm⟩ := hi1.natw hz.r
  have hm : s.isMid (nth left i) = true := by rw [e]; exact hm
  have hz' := hz.next hm
  have hl' := hz'.l
  have el := erase_len hi
  have nc := next_cost (s := s) (by omega) (nth left i)
  have cl := cnt_le (s.next (nth left i)).1 (left.eraseIdx i)
  have eb := bnd_left hz'.r (hi1.next hz.r)
  refine ⟨shape_Next_is (by omega) _, ?_, ?_, Bound_eq (by omega) (by omega), nc.1, nc.2, by rw [eb]; omega, by rw [eb]; omega⟩
  · have g1 : 0 < left.length := by omega
    have g2 : 0 + left.length ≤ 2147483648 := by omega
    simp only [slices_Clone_int_int_2, Bool.cond_decide, if_pos g1, if_pos g2, List.nil_append]
  · unfold ints_cut
    rw [decide_eq_true (by omega : (0 : Int) ≤ ((i : Nat) : Int)), decide_eq_true (by omega : ((i : Nat) : Int) < ((i : Nat) : Int) + 1), decide_eq_true (by omega : ((i : Nat) : Int) + 1 ≤ (left.length : Int)), Bool.and_self, Bool.and_self, cond_true,
      List.eraseIdx_eq_take_drop_succ, Int.toNat_natCast, show (((i : Nat) : Int) + 1).toNat = i + 1 by omega]
/-- a beginning that isn't empty -/
theorem try_n : ∀ (k n : Nat) (f : Found) (s : Shape) (sofar left : List Int) (c : Int), left.length = k → k < n → Sz s → Lft s left → 0 < sofar.length → sofar.length + k ≤ 1000 → 0 ≤ c → c + (k : Int) * 5000000000000 ≤ 5000000000000000 → 0 ≤ f.budget → f.budget ≤ 1000000 →
    ∃ g, search_found_try_1_n n f s sofar left c = some g ∧ Res f g s sofar left c := by
  intro k
  induction k with
  | zero =>
    intro n f s sofar left c hk hn hz hf hs hs2 c0 c1 b0 b1
    obtain ⟨n, rfl⟩ : ∃ m, n = m + 1 := ⟨n - 1, by omega⟩
    have hnil : left = [] := List.length_eq_zero_iff.1 hk
    subst hnil
    show ∃ g, search_found_try_1_st (search_found_try_1_n n) f s sofar [] c = some g ∧ _
    unfold search_found_try_1_st
    rw [Bool.cond_decide]
    have hno : nodesN ([] : List Int).length = 1 := rfl
    have one : ∀ ord : List Int, ord.Perm [] → ord = [] := fun ord p => List.length_eq_zero_iff.1 p.length_eq
    by_cases hb : f.budget ≤ 0
    · rw [if_pos hb]
      refine ⟨_, rfl, ⟨Int.le_refl _, by rw [hno]; show f.budget - 1 ≤ f.budget; omega, Int.le_refl _, b0, fun hk => by rw [hno] at hk; omega, fun ha => (by cases ha), .inl ⟨rfl, rfl⟩⟩⟩
    · rw [if_neg hb, inK_i64 (by omega) (by omega), cond_true]
      have z : (((([] : List Int).length : Nat) : Int) == 0) = true := rfl
      rw [z, cond_true, Bool.cond_decide]
      have lp : ∀ o o1 o3 o4, search_found_try_1_l_2 s sofar [] c (search_found_try_1_n n) 0 o o1 o3 o4 = some (o, o1, o3, o4) := fun o o1 o3 o4 => by
        unfold search_found_try_1_l_2
        exact loop_run (round := fun σ : Nat × List Int × Int × Int × Bool => search_found_try_1_l_2_rd s sofar [] c (search_found_try_1_n n) σ.1 σ.2.1 σ.2.2.1 σ.2.2.2.1 σ.2.2.2.2) (fun _ => (0, o, o1, o3, o4)) 0 (fun i hi => by omega) rfl (by simp only [FU]; omega)
      by_cases hc : c < f.cost
      · have cl : slices_Clone_int_int sofar = some sofar := by unfold slices_Clone_int_int; rw [decide_eq_true (by omega)]; rfl
        rw [if_pos hc, cl, Option.bind_some, lp, Option.bind_some]
        refine ⟨_, rfl, ⟨by show c ≤ f.cost; omega, by rw [hno]; show f.budget - 1 ≤ f.budget - 1; omega, by show f.budget - 1 ≤ f.budget; omega, by show 0 ≤ f.budget - 1; omega, fun _ => rfl, fun ha => ⟨ha, fun ord p => ?_⟩, .inr ⟨[], List.Perm.refl _, ?_, ?_⟩⟩⟩
        · rw [one ord p, costOf_nil]; show c ≤ c + 0; omega
        · rw [costOf_nil]; show c = c + 0; omega
        · rw [List.append_nil]
      · rw [if_neg hc, lp, Option.bind_some]
        refine ⟨_, rfl, ⟨Int.le_refl _, by rw [hno]; show f.budget - 1 ≤ f.budget - 1; omega, by show f.budget - 1 ≤ f.budget; omega, by show 0 ≤ f.budget - 1; omega, fun _ => rfl, fun ha => ⟨ha, fun ord p => ?_⟩, .inl ⟨rfl, rfl⟩⟩⟩
        rw [one ord p, costOf_nil]; show f.cost ≤ c + 0; omega
  | succ k ih =>
    intro n f s sofar left c hk hn hz hf hs hs2 c0 c1 b0 b1
    obtain ⟨n, rfl⟩ : ∃ m, n = m + 1 := ⟨n - 1, by omega⟩
    show ∃ g, search_found_try_1_st (search_found_try_1_n n) f s sofar left c = some g ∧ _
    unfold search_found_try_1_st
    rw [Bool.cond_decide]
    have np := nodes_pos left.length
    by_cases hb : f.budget ≤ 0
    · rw [if_pos hb]
      refine ⟨_, rfl, ⟨Int.le_refl _, by show f.budget - _ ≤ f.budget; omega, Int.le_refl _, b0, fun hk => by omega, fun ha => (by cases ha), .inl ⟨rfl, rfl⟩⟩⟩
    · rw [if_neg hb, inK_i64 (by omega) (by omega), cond_true]
      have z : (((left.length : Nat) : Int) == 0) = false := by rw [beq_eq_false_iff_ne]; omega
      rw [z, cond_false]
      obtain ⟨x, hx, mx⟩ := loop_left (f := f) hz hf (by omega) (c := c) (sofar := sofar) (fun g i => search_found_try_1_n n g (s.next (nth left i)).1 (sofar ++ [nth left i]) (left.eraseIdx i) (c + (s.next (nth left i)).2.1))
        (fun g i hi hb0 hb1 => by
          have hi1 := hf.at hi
          obtain ⟨w, e, hm⟩ := hi1.natw hz.r
          have hm : s.isMid (nth left i) = true := by rw [e]; exact hm
          obtain ⟨_, _, _, _, p1, p2, _, _⟩ := round_parts hz hf (by omega) hi
          have el := erase_len hi
          exact ih n g (s.next (nth left i)).1 (sofar ++ [nth left i]) (left.eraseIdx i) (c + (s.next (nth left i)).2.1) (by omega) (by omega) (hz.next hm) (hi1.next hz.r) (by rw [List.length_append, List.length_singleton]; omega) (by rw [List.length_append, List.length_singleton]; omega) (by omega) (by omega) hb0 hb1)
        (round := fun σ : Nat × List Int × Int × Int × Bool => search_found_try_1_l_2_rd s sofar left c (search_found_try_1_n n) σ.1 σ.2.1 σ.2.2.1 σ.2.2.2.1 σ.2.2.2.2)
        (fun i o o1 o3 o4 hi => by
          obtain ⟨q1, q2, q3, q4, p1, p2, p3, p4⟩ := round_parts hz hf (by omega) hi
          have g1 : ((i : Nat) : Int) < (left.length : Int) := by omega
          have cl : slices_Clone_int_int_2 sofar = some sofar := by
            have g1 : 0 < sofar.length := hs
            have g2 : 0 + sofar.length ≤ 2147483648 := by omega
            simp only [slices_Clone_int_int_2, Bool.cond_decide, if_pos g1, if_pos g2, List.nil_append]
          have g3 : sofar.length + 1 ≤ 2147483648 := by omega
          dsimp only
          by_cases c2 : c + (s.next (nth left i)).2.1 + (s.next (nth left i)).1.bnd (left.eraseIdx i) ≥ o1
          · rw [if_pos c2]
            simp (disch := omega) only [search_found_try_1_l_2_rd, Bool.cond_decide, if_pos g1, if_pos hi, q1, q2, q3, q4, Option.bind_some, inK_i64, cond_true, if_pos c2]
          · rw [if_neg c2]
            simp (disch := omega) only [search_found_try_1_l_2_rd, Bool.cond_decide, if_pos g1, if_pos hi, q1, q2, q3, q4, Option.bind_some, inK_i64, cond_true, if_neg c2, cl, if_pos g3])
        (fun o o1 o3 o4 => by
          have g1 : ¬ ((left.length : Nat) : Int) < (left.length : Int) := by omega
          simp only [search_found_try_1_l_2_rd, Bool.cond_decide, if_neg g1]) b1
        (g := ⟨f.l, f.cost, f.budget - 1, f.all⟩) ⟨Int.le_refl _, by show f.budget - 1 - ((0 * _ : Nat) : Int) ≤ f.budget - 1; rw [Nat.zero_mul]; omega, by show f.budget - 1 ≤ f.budget; omega, by show 0 ≤ f.budget - 1; omega, fun _ => rfl, fun ha => ⟨ha, fun j hj => by omega⟩, .inl ⟨rfl, rfl⟩⟩
      have hx' : search_found_try_1_l_2 s sofar left c (search_found_try_1_n n) 0 f.l f.cost (f.budget - 1) f.all = some (x.l, x.cost, x.budget, x.all) := hx
      rw [hx', Option.bind_some]
      exact ⟨_, rfl, mx.done (by omega)⟩
/-- the beginning that is empty -/
theorem try_root {f : Found} {s : Shape} {left : List Int} (hz : Sz s) (hf : Lft s left) (hlen : left.length ≤ 900) (b0 : 0 ≤ f.budget) (b1 : f.budget ≤ 1000000) :
    ∃ g, search_found_try_1 f s left 0 = some g ∧ Res f g s [] left 0 := by
  unfold search_found_try_1
  rw [Bool.cond_decide]
  have np := nodes_pos left.length
  have one : ∀ ord : List Int, ord.Perm [] → ord = [] := fun ord p => List.length_eq_zero_iff.1 p.length_eq
  by_cases hb : f.budget ≤ 0
  · rw [if_pos hb]
    exact ⟨_, rfl, ⟨Int.le_refl _, by show f.budget - _ ≤ f.budget; omega, Int.le_refl _, b0, fun hk => by omega, fun ha => (by cases ha), .inl ⟨rfl, rfl⟩⟩⟩
  rw [if_neg hb, inK_i64 (by omega) (by omega), cond_true]
  cases left with
  | nil =>
    have hno : nodesN ([] : List Int).length = 1 := rfl
    have z : (((([] : List Int).length : Nat) : Int) == 0) = true := rfl
    rw [z, cond_true, Bool.cond_decide]
    have lp : ∀ o o1 o3 o4, search_found_try_1_l s [] 0 0 o o1 o3 o4 = some (o, o1, o3, o4) := fun o o1 o3 o4 => by
      unfold search_found_try_1_l
      exact loop_run (round := fun σ : Nat × List Int × Int × Int × Bool => search_found_try_1_l_rd s [] 0 σ.1 σ.2.1 σ.2.2.1 σ.2.2.2.1 σ.2.2.2.2) (fun _ => (0, o, o1, o3, o4)) 0 (fun i hi => by omega) rfl (by simp only [FU]; omega)
    by_cases hc : (0 : Int) < f.cost
    · have cl : slices_Clone_int_int_3 = some [] := rfl
      rw [if_pos hc, cl, Option.bind_some, lp, Option.bind_some]
      refine ⟨_, rfl, ⟨by show 0 ≤ f.cost; omega, by rw [hno]; show f.budget - 1 ≤ f.budget - 1; omega, by show f.budget - 1 ≤ f.budget; omega, by show 0 ≤ f.budget - 1; omega, fun _ => rfl, fun ha => ⟨ha, fun ord p => ?_⟩, .inr ⟨[], List.Perm.refl _, ?_, rfl⟩⟩⟩
      · rw [one ord p, costOf_nil]; show (0 : Int) ≤ 0 + 0; omega
      · rw [costOf_nil]; show (0 : Int) = 0 + 0; omega
    · rw [if_neg hc, lp, Option.bind_some]
      refine ⟨_, rfl, ⟨Int.le_refl _, by rw [hno]; show f.budget - 1 ≤ f.budget - 1; omega, by show f.budget - 1 ≤ f.budget; omega, by show 0 ≤ f.budget - 1; omega, fun _ => rfl, fun ha => ⟨ha, fun ord p => ?_⟩, .inl ⟨rfl, rfl⟩⟩⟩
      rw [one ord p, costOf_nil]; show f.cost ≤ 0 + 0; omega
  | cons v0 r0 =>
    obtain ⟨left, hleft⟩ : ∃ left, left = v0 :: r0 := ⟨_, rfl⟩
    have hpos : 0 < left.length := by rw [hleft, List.length_cons]; omega
    rw [← hleft] at hf hlen np ⊢
    have z : (((left.length : Nat) : Int) == 0) = false := by rw [beq_eq_false_iff_ne]; omega
    rw [z, cond_false]
    obtain ⟨x, hx, mx⟩ := loop_left (f := f) hz hf (by omega) (c := 0) (sofar := []) (fun g i => search_found_try_1_2 g (s.next (nth left i)).1 [nth left i] (left.eraseIdx i) (0 + (s.next (nth left i)).2.1))
      (fun g i hi hb0 hb1 => by
        have hi1 := hf.at hi
        obtain ⟨w, e, hm⟩ := hi1.natw hz.r
        have hm : s.isMid (nth left i) = true := by rw [e]; exact hm
        obtain ⟨_, _, _, _, p1, p2, _, _⟩ := round_parts hz hf (by omega) hi
        have el := erase_len hi
        exact try_n (left.eraseIdx i).length FU g (s.next (nth left i)).1 [nth left i] (left.eraseIdx i) (0 + (s.next (nth left i)).2.1) rfl (by simp only [FU]; omega) (hz.next hm) (hi1.next hz.r) (by simp) (by rw [List.length_singleton]; omega) (by omega) (by omega) hb0 hb1)
      (round := fun σ : Nat × List Int × Int × Int × Bool => search_found_try_1_l_rd s left 0 σ.1 σ.2.1 σ.2.2.1 σ.2.2.2.1 σ.2.2.2.2)
      (fun i o o1 o3 o4 hi => by
        obtain ⟨q1, q2, q3, q4, p1, p2, p3, p4⟩ := round_parts hz hf (by omega) hi
        have g1 : ((i : Nat) : Int) < (left.length : Int) := by omega
        have cl : slices_Clone_int_int_4 = some (.inl ()) := rfl
        dsimp only
        by_cases c2 : 0 + (s.next (nth left i)).2.1 + (s.next (nth left i)).1.bnd (left.eraseIdx i) ≥ o1
        · rw [if_pos c2]
          simp (disch := omega) only [search_found_try_1_l_rd, Bool.cond_decide, if_pos g1, if_pos hi, q1, q2, q3, q4, Option.bind_some, inK_i64, cond_true, if_pos c2]
        · rw [if_neg c2]
          simp (disch := omega) only [search_found_try_1_l_rd, Bool.cond_decide, if_pos g1, if_pos hi, q1, q2, q3, q4, Option.bind_some, inK_i64, cond_true, if_neg c2, cl, caseS_inl])
      (fun o o1 o3 o4 => by
        have g1 : ¬ ((left.length : Nat) : Int) < (left.length : Int) := by omega
        simp only [search_found_try_1_l_rd, Bool.cond_decide, if_neg g1]) b1
      (g := ⟨f.l, f.cost, f.budget - 1, f.all⟩) ⟨Int.le_refl _, by show f.budget - 1 - ((0 * _ : Nat) : Int) ≤ f.budget - 1; rw [Nat.zero_mul]; omega, by show f.budget - 1 ≤ f.budget; omega, by show 0 ≤ f.budget - 1; omega, fun _ => rfl, fun ha => ⟨ha, fun j hj => by omega⟩, .inl ⟨rfl, rfl⟩⟩
    have hx' : search_found_try_1_l s left 0 0 f.l f.cost (f.budget - 1) f.all = some (x.l, x.cost, x.budget, x.all) := hx
    rw [hx', Option.bind_some]
    exact ⟨_, rfl, mx.done hpos⟩
end Go.Ab.M
end

section
/-
  PLAIN LAW: A SEARCH.
-/
namespace Go.Ab.M
open Go.Proofs Go.Ab
set_option linter.unusedVariables false
set_option linter.unusedSimpArgs false

theorem budget_is (b : Int) : ∃ B : Int, mxI 0 (mnI b 1000000) = B ∧ 0 ≤ B ∧ B ≤ 1000000 ∧ ∀ K : Int, K ≤ 1000000 → K ≤ b → K ≤ B := by
  have h1 : mnI b 1000000 = if 1000000 < b then 1000000 else b := by unfold mnI; by_cases h : (1000000 : Int) < b <;> simp [h]
  have h2 : mxI 0 (mnI b 1000000) = if mnI b 1000000 > 0 then mnI b 1000000 else 0 := by unfold mxI; by_cases h : mnI b 1000000 > 0 <;> simp [h]
  refine ⟨_, rfl, ?_, ?_, fun K h3 h4 => ?_⟩
  · rw [h2]; split <;> omega
  · rw [h2, h1]; split <;> split <;> omega
  · rw [h2, h1]; split <;> split <;> omega
theorem mids_left {s : Shape} (h : s.right = true) : Lft s s.mids := ⟨rowOf_nodup _ _, fun v hv => (mids_mid h v).1 hv⟩
theorem all_cost {s : Shape} (hz : Sz s) {ord : List Int} (p : ord.Perm s.mids) : s.all ord = (costOf s ord, 0) := by
  unfold Shape.all
  have he : eachB s.Ins s.Mids.toNat ord = true := by
    unfold eachB
    rw [decide_eq_true_eq]
    exact p
  rw [if_pos hz.r, if_pos he]
  rfl
theorem greedy_l_one (s : Shape) : order_greedy_l s = some () :=
  loop_run (round := fun _ : Unit => order_greedy_l_rd s) (fun _ => ()) 0 (fun i hi => by omega) rfl (by decide)
theorem Markowitz_p {s : Shape} (hl : s.All.length ≤ 1000) (hn : s.n * s.n ≤ 1000) : order_Markowitz s = some (if s.right = true then s.greedy false else []) := by
  have hl2 : s.All.length ≤ 2000000 := by omega
  cases hr : s.right with
  | false => simp [order_Markowitz, order_greedy, shape_Right_eq hl2, hr]
  | true =>
    have hm := mids_len hr
    have ha := (all_l (right_sz hr)).2
    have e : rowOf s.Ins s.Mids.toNat = s.mids := rfl
    rw [e] at ha
    cases hmid : s.mids with
    | nil => rw [hmid] at ha; simp [order_Markowitz, order_greedy, order_all_2, shape_Right_eq hl2, hr, ha, greedy_l_one s, Shape.greedy, hmid, greedyP]
    | cons x xs =>
      have h := greedy_loop s.mids.length FU s s.mids.length s.mids [] rfl (by simp only [FU]; omega) hr (fun v hv => (mids_mid hr v).1 (List.mem_of_mem_take hv)) hl hn (Nat.le_refl _) (by simp only [List.length_nil]; omega)
      rw [List.take_length] at h
      have h' : order_greedy_l_2 [] s.Ins s.Mids s.Outs s.All (x :: xs).length (x :: xs) = some (s.greedy false) := by rw [← hmid]; exact h
      rw [hmid] at ha
      simp only [order_Markowitz, order_greedy, order_all_2, shape_Right_eq hl2, hr, ha, Option.bind_some, Bool.not_true, cond_false, List.isEmpty_cons, caseS_inr, h', if_true]
theorem Search_eq {s : Shape} (hz : Sz s) (h12 : s.mids.length ≤ 12) (b : Int) : ∃ (B : Int) (g : Found), search_Search s b = some (g.l, g.cost, g.all, 0) ∧ (∀ K : Int, K ≤ 1000000 → K ≤ b → K ≤ B) ∧ (s.greedy false).Perm s.mids ∧ Res ⟨s.greedy false, costOf s (s.greedy false), B, true⟩ g s [] s.mids 0 := by
  have hl := hz.l
  have gp : (s.greedy false).Perm s.mids := greedyP_perm false _ s s.mids rfl
  have mk := Markowitz_p (s := s) hz.l hz.n
  rw [if_pos hz.r] at mk
  have al := shape_All_eq (s := s) (by omega) (o := s.greedy false) (by rw [gp.length_eq]; exact h12)
  rw [all_cost hz gp] at al
  have fw := Forward_eq (s := s) (by omega)
  rw [if_pos hz.r] at fw
  obtain ⟨B, hB, b0, b1, bK⟩ := budget_is b
  obtain ⟨g, hg, r⟩ := try_root (f := ⟨s.greedy false, costOf s (s.greedy false), B, true⟩) hz (mids_left hz.r) (by omega) b0 b1
  refine ⟨B, g, ?_, bK, gp, r⟩
  unfold search_Search
  rw [shape_Right_eq (by omega), hz.r, Option.bind_some, Bool.not_true, cond_false, mk, Option.bind_some, al, Option.bind_some, hB]
  unfold search_found_try
  rw [fw, Option.bind_some, hg]
  rfl
/-- what is found is an order, and costs what is told -/
theorem found_order {s : Shape} {B : Int} {g : Found} (gp : (s.greedy false).Perm s.mids) (r : Res ⟨s.greedy false, costOf s (s.greedy false), B, true⟩ g s [] s.mids 0) : g.l.Perm s.mids ∧ g.cost = costOf s g.l := by
  rcases r.alt with ⟨q1, q2⟩ | ⟨ord, q1, q2, q3⟩
  · have q2 : g.l = s.greedy false := q2
    have q1 : g.cost = costOf s (s.greedy false) := q1
    rw [q2]
    exact ⟨gp, q1⟩
  · rw [List.nil_append] at q3
    rw [q3]
    exact ⟨q1, by rw [q2, Int.zero_add]⟩
theorem nodes_is : ∀ M : Nat, M ≤ 5 → search_Nodes (M : Int) = some (nodesN M : Int) ∧ nodesN M ≤ 326
  | 0, _ => ⟨by kernel_rfl, by decide⟩
  | 1, _ => ⟨by kernel_rfl, by decide⟩
  | 2, _ => ⟨by kernel_rfl, by decide⟩
  | 3, _ => ⟨by kernel_rfl, by decide⟩
  | 4, _ => ⟨by kernel_rfl, by decide⟩
  | 5, _ => ⟨by kernel_rfl, by decide⟩
  | n + 6, h => by omega
end Go.Ab.M
end

section
/-
  PLAIN LAW: AN ORDER OF ALL MIDS; ALL OF THEM GO.
-/
namespace Go.Ab.M
open Go.Proofs Go.Ab
set_option linter.unusedVariables false
set_option linter.unusedSimpArgs false
/-- all mids -/
def midsI (I M : Nat) : List Int := (List.range M).map fun t => ((I + t : Nat) : Int)
theorem Order_eq {g : Graph} {I M O : Nat} (h : RGr g I M O) {keys : List Int} (hk : ∀ x, x ∈ keys → 0 ≤ x ∧ x ≤ 255) : ∃ ord, ref18_Order g keys = some ord ∧ ord.Perm (midsI I M) := by
  have i2 := h.i2; have m2 := h.m2
  have r1 : ref18_Order_l g keys [] g.Ins = some (midsI I M) := by
    unfold ref18_Order_l
    have := loop_run (round := fun σ : List Int × Int => ref18_Order_l_rd g keys σ.1 σ.2) (fun t => ((List.range t).map fun t => ((I + t : Nat) : Int), ((I + t : Nat) : Int))) M (r := (List.range M).map fun t => ((I + t : Nat) : Int)) (fun t ht => ?_) ?_ (by simp only [FU]; omega)
    · rw [h.i]
      exact this
    · show ref18_Order_l_rd g keys _ ((I + t : Nat) : Int) = some (.inl (_, _))
      rw [List.range_succ, List.map_append]
      have hl : ((List.range t).map fun t => ((I + t : Nat) : Int)).length = t := by simp
      generalize (List.range t).map (fun t => ((I + t : Nat) : Int)) = l0 at hl ⊢
      simp (disch := omega) only [ref18_Order_l_rd, h.i, h.m, Bool.cond_decide, if_t, inK_i64, cond_true]
      rw [show ((I + t : Nat) : Int) + 1 = ((I + (t + 1) : Nat) : Int) by omega]
      rfl
    · simp (disch := omega) only [ref18_Order_l_rd, h.i, h.m, Bool.cond_decide, if_f, inK_i64, cond_true]
  have r2 : ∃ ord, ref18_Order_l_2 keys (midsI I M) [] 0 = some ord ∧ ord.Perm (midsI I M) := by
    unfold ref18_Order_l_2
    have ml : (midsI I M).length = M := by simp [midsI]
    refine loop_inv (fun t (σ : List Int × List Int × Nat) => σ.2.2 = t ∧ (σ.2.1 ++ σ.1).Perm (midsI I M) ∧ σ.2.1.length = t) M (midsI I M, [], 0) ⟨rfl, .refl _, rfl⟩ ?_ ?_ (by simp only [FU]; omega)
    · rintro _ ⟨left, out, i⟩ hi ⟨rfl, hp, ho⟩
      have hi : i < M := hi
      have hp : (out ++ left).Perm (midsI I M) := hp
      have ho : out.length = i := ho
      have hlen : out.length + left.length = M := by rw [← List.length_append, hp.length_eq, ml]
      have key : ∀ k, k < left.length → ((out ++ [nth left k]) ++ (([] ++ left.take k) ++ left.drop (k + 1))).Perm (midsI I M) := fun k hk => by
        refine List.Perm.trans ?_ hp
        rw [List.append_assoc]
        refine List.Perm.append_left out ?_
        have e : left = left.take k ++ nth left k :: left.drop (k + 1) := by
          have := List.take_append_drop k left
          rw [List.drop_eq_getElem_cons hk, ← nth_get hk] at this
          exact this.symm
        rw [List.nil_append]
        conv => rhs; rw [e]
        show (nth left k :: (left.take k ++ left.drop (k + 1))).Perm _
        exact List.perm_middle.symm
      by_cases h1 : i < keys.length
      · obtain ⟨k0, k1⟩ := hk _ (nth_mem h1)
        have hm0 := Int.emod_nonneg (nth keys i) (show ((left.length : Nat) : Int) ≠ 0 by omega)
        have hm1 := Int.emod_lt_of_pos (nth keys i) (show (0 : Int) < ((left.length : Nat) : Int) by omega)
        have kk := key (nth keys i % ((left.length : Nat) : Int)).toNat (by omega)
        refine ⟨(([] ++ left.take (nth keys i % ((left.length : Nat) : Int)).toNat) ++ left.drop ((nth keys i % ((left.length : Nat) : Int)) + 1).toNat, out ++ [nth left (nth keys i % ((left.length : Nat) : Int)).toNat], i + 1), ?_, rfl, ?_, by simp [ho]⟩
        · have t1 : (left.take (nth keys i % ((left.length : Nat) : Int)).toNat).length ≤ left.length := by rw [List.length_take]; omega
          have t2 : (left.drop ((nth keys i % ((left.length : Nat) : Int)) + 1).toNat).length ≤ left.length := by rw [List.length_drop]; omega
          simp only [ref18_Order_l_2_rd, List.nil_append]
          generalize left.take (nth keys i % ((left.length : Nat) : Int)).toNat = L1 at *
          generalize left.drop ((nth keys i % ((left.length : Nat) : Int)) + 1).toNat = L2 at *
          generalize nth left (nth keys i % ((left.length : Nat) : Int)).toNat = X at *
          generalize nth keys i % ((left.length : Nat) : Int) = a at *
          simp (disch := omega) only [Bool.cond_decide, if_t, inK_i64, cond_true]
        · show ((out ++ [nth left _]) ++ (([] ++ left.take _) ++ left.drop _)).Perm _
          rw [show ((nth keys i % ((left.length : Nat) : Int)) + 1).toNat = (nth keys i % ((left.length : Nat) : Int)).toNat + 1 by omega]
          exact kk
      · have kk := key 0 (by omega)
        refine ⟨(([] ++ left.take 0) ++ left.drop 1, out ++ [nth left 0], i + 1), ?_, rfl, kk, by simp [ho]⟩
        have t2 : (left.drop 1).length ≤ left.length := by rw [List.length_drop]; omega
        have t1 : (left.take 0).length ≤ left.length := by rw [List.length_take]; omega
        simp only [ref18_Order_l_2_rd, List.nil_append]
        generalize left.drop 1 = L2 at *
        generalize left.take 0 = L1 at *
        simp (disch := omega) only [Bool.cond_decide, if_t, if_f, inK_i64, cond_true]
    · rintro ⟨left, out, i⟩ ⟨hi, hp, ho⟩
      have hi : i = M := hi
      have hp : (out ++ left).Perm (midsI I M) := hp
      have ho : out.length = M := ho
      have hlen : out.length + left.length = M := by rw [← List.length_append, hp.length_eq, ml]
      have hl : left = [] := List.eq_nil_of_length_eq_zero (by omega)
      subst hl
      rw [List.append_nil] at hp
      exact ⟨out, rfl, hp⟩
  obtain ⟨ord, h1, h2⟩ := r2
  exact ⟨ord, by simp only [ref18_Order, r1, h1, Option.bind_some], h2⟩
end Go.Ab.M
end

section
/-
  PLAIN LAW: SHAPES OF GRAPHS OF SMALL NUMBERS.
-/
namespace Go.Ab.M
open Go.Proofs Go.Ab
set_option linter.unusedVariables false
set_option linter.unusedSimpArgs false

/-- a graph of small numbers, and an order of its mids -/
theorem small_shape {x y z : Int} {l : List Link} {keys : List Int} (hx : inRange .u8 x) (hy : inRange .u8 y) (hz : inRange .u8 z) (hl : LinksOk l) (hlen : l.length ≤ 1000) (hk : ∀ x, x ∈ keys → 0 ≤ x ∧ x ≤ 255) :
    ∃ (g : Graph) (ord : List Int), ref17_Made x y z l = some g ∧ shape_From g = some g.shape ∧ Sz g.shape ∧ ref18_Order g keys = some ord ∧ Lft g.shape ord ∧ ord.length ≤ 5 ∧ g.Mids = g.shape.Mids ∧ 0 ≤ g.Mids ∧ g.Mids ≤ 5 ∧ ord.Perm g.shape.mids := by
  obtain ⟨I, M, O, ⟨i1, i2, m2, o1, o2, -⟩, hm, R, ok, hE, hgone⟩ := made_all hx hy hz hl hlen
  obtain ⟨ord, ho, hp⟩ := Order_eq R hk
  have hF := shape_From_eq (n := 1) (by decide) ok
  rw [if_pos R.right] at hF
  have sr := right_shape R.right
  have hn : (mkGraph I M O l).shape.n = I + M + O := by
    unfold Shape.n
    show ((mkGraph I M O l).Ins + (mkGraph I M O l).Mids + (mkGraph I M O l).Outs).toNat = _
    rw [R.i, R.m, R.o]; omega
  have hol : ord.length = M := by rw [hp.length_eq]; unfold midsI; rw [List.length_map, List.length_range]
  have hmid : midsI I M = (mkGraph I M O l).shape.mids := by
    unfold midsI Shape.mids rowOf
    show _ = (List.range (mkGraph I M O l).Mids.toNat).map fun i : Nat => (mkGraph I M O l).Ins + (i : Int)
    rw [R.m, R.i, Int.toNat_natCast]
    exact List.map_congr_left fun i _ => by omega
  refine ⟨_, ord, hm, hF, ⟨sr, ?_, ?_⟩, ho, ⟨?_, fun v hv => ?_⟩, by omega, rfl, by rw [R.m]; omega, by rw [R.m]; omega, by rw [← hmid]; exact hp⟩
  · rw [hn]
    exact Nat.le_trans (Nat.mul_le_mul (show I + M + O ≤ 11 by omega) (show I + M + O ≤ 11 by omega)) (by decide)
  · show ((mkGraph I M O l).Edges.map Edge.pair).length ≤ 1000
    rw [List.length_map]; omega
  · rw [hp.nodup_iff, hmid]; exact rowOf_nodup _ _
  · exact (mids_mid sr v).1 (by rw [← hmid]; exact hp.mem_iff.1 hv)
end Go.Ab.M
end

section
/-
  PLAIN LAW: WITH BUDGET ENOUGH NO ORDER COSTS LESS.
-/
namespace Go.Ab.M
open Go.Proofs Go.Ab
set_option linter.unusedVariables false
set_option linter.unusedSimpArgs false

theorem SearchBest_true (x y z : Int) (l : List Link) (keys : List Int) (hx : inRange .u8 x) (hy : inRange .u8 y) (hz : inRange .u8 z) (hl : l.length ≤ maxLen ∧ ∀ z, z ∈ l → inRange .u8 z.From ∧ inRange .u8 z.To ∧ inRange .i8 z.N ∧ inRange .u8 z.D_) (hk : keys.length ≤ maxLen ∧ ∀ z, z ∈ keys → inRange .u8 z) :
    law24_SearchBest x y z l keys = some true := by
  unfold law24_SearchBest
  rw [awake24, Option.bind_some]
  by_cases h20 : ((l.length : Nat) : Int) > 20
  · rw [decide_eq_true h20, cond_true]
  rw [decide_eq_false h20, cond_false]
  obtain ⟨g, ord, hm, hF, sz, ho, hf, h5, e1, e2, e3, hp⟩ := small_shape hx hy hz (links_ok hl.2) (by omega) (keys := keys) (fun x hx => ⟨(hk.2 x hx).1, (hk.2 x hx).2⟩)
  have hsl := sz.l
  obtain ⟨m1, m2⟩ := mids_len sz.r
  obtain ⟨M, hM⟩ : ∃ M : Nat, g.Mids = (M : Int) := ⟨g.Mids.toNat, by omega⟩
  have hML : g.shape.mids.length = M := by omega
  obtain ⟨nd, nd2⟩ := nodes_is M (by omega)
  obtain ⟨B, f, hs, bK, gp, r⟩ := Search_eq sz (by omega) (nodesN M : Int)
  obtain ⟨fo, fc⟩ := found_order gp r
  have hall : f.all = true := by
    have := r.keep (by rw [hML]; exact bK _ (by omega) (Int.le_refl _))
    exact this
  have ale := shape_All_eq (s := g.shape) (by omega) (o := ord) (by omega)
  rw [all_cost sz hp] at ale
  have opt := (r.opt hall).2 ord hp
  have fw := Forward_eq (s := g.shape) (by omega)
  rw [if_pos sz.r] at fw
  have bo := Bound_eq (s := g.shape) (by omega) (left := g.shape.mids) (by omega)
  have bc := bnd_costs sz (mids_left sz.r) fo
  have g1 : f.cost ≤ costOf g.shape ord := by omega
  have g2 : f.cost ≥ g.shape.bnd g.shape.mids := by omega
  have z0 : ((0 : Int) == 0) = true := rfl
  rw [hm, Option.bind_some, hF, Option.bind_some, hM, nd, Option.bind_some, hs, Option.bind_some, ho, Option.bind_some, ale, Option.bind_some]
  simp only [cond_true, z0, hall, decide_eq_true g1, fw, bo, Option.bind_some, decide_eq_true g2]
end Go.Ab.M
end

section
/-
  ARGUMENTS AS TYPED DATA (printed by jot.py).
-/
namespace Go.Ab.M
open Go.Proofs Go.Proofs.YtpefcgiiigdcdaaGreat
set_option linter.unusedVariables false
def tyLink : Ty Tryz.prog 117 := Ty.as (Ty.struct Tryz.underlying117 (Flds.cons (Ty.int .u8 Tryz.underlying5) rfl 1 (by kernel_rfl) (Flds.cons (Ty.int .u8 Tryz.underlying5) rfl 1 (by kernel_rfl) (Flds.cons (Ty.int .i8 Tryz.underlying97) rfl 1 (by kernel_rfl) (Flds.last (Ty.int .u8 Tryz.underlying5) rfl (by kernel_rfl))))))
  (fun y => Link.mk y.1 y.2.1 y.2.2.1 y.2.2.2) Link.D (fun y => inRange .u8 y.From ∧ inRange .u8 y.To ∧ inRange .i8 y.N ∧ inRange .u8 y.D_) (fun _ => 0) (fun _ => rfl) (fun _ h => h) (fun _ => Nat.zero_le _)
end Go.Ab.M
end

section
namespace Go.Proofs.YtpefcgiiigdcdaaGreat.searchBest
open Go.ChangeShapes Go.WideShapes Go.ChangeAt Go.RowKit Go.Ab Go.Ab.M
set_option linter.unusedVariables false

theorem own : ownKnob Tryz.prog.godebug = none := by kernel_rfl

theorem core (a : Int) (b : Int) (c : Int) (d : List Link) (e : List Int) (ha : inRange .u8 a) (hb : inRange .u8 b) (hc : inRange .u8 c) (hd : (d.length ≤ maxLen ∧ ∀ z, z ∈ d → tyLink.ok z)) (he : (e.length ≤ maxLen ∧ ∀ z, z ∈ e → inRange .u8 z)) : ACallsD Tryz.prog 4 0 [NI .u8 a, NI .u8 b, NI .u8 c, SL Link.D d, SL (cI .u8) e] [] yes [] := law24_SearchBest_ok a b c d e true (SearchBest_true a b c d e ha hb hc hd he)

set_option maxRecDepth 100000 in
theorem contract (H : Type) (enc : TypeId × Value → H) (W : World) (base : Nat) (args : Array Value) (ds gs : List (DataW H)) (before : List MemPlace)
    (hval : ∀ (j : Nat) t v, Tryz.f4.params[j]? = some t → args[j]? = some v → Value.okWide Tryz.prog W .any base t v)
    (hW : DataW.Whole enc Tryz.prog Tryz.f4.params.toList Rows.searchBestSpec.vars false W args.toList ds gs before) :
    Calls Tryz.prog 4 args W fun e W' => ∃ v, e = .returned v ∧ Rows.searchBestSpec.post enc Tryz.prog Tryz.f4 false true false false W args v W' :=
  law_contract (tb := 4) (ts := [5, 5, 5, 43, 44]) (Tup.one (Ty.int .u8 Tryz.underlying5) (fun n => .v (.int .u8 n)) (fun _ => rfl) (one_int Tryz.underlying5) (Tup.one (Ty.int .u8 Tryz.underlying5) (fun n => .v (.int .u8 n)) (fun _ => rfl) (one_int Tryz.underlying5) (Tup.one (Ty.int .u8 Tryz.underlying5) (fun n => .v (.int .u8 n)) (fun _ => rfl) (one_int Tryz.underlying5) (Tup.one (Ty.slice Tryz.underlying43 tyLink (by decide +kernel) (fun _ => show 4 = _ by kernel_rfl)) (fun l => .sl (l.map Link.D)) (fun _ => rfl) (one_slice Tryz.underlying43) (Tup.one (Ty.slice Tryz.underlying44 (Ty.int .u8 Tryz.underlying5) (by decide +kernel) (fun _ => show 1 = _ by kernel_rfl)) (fun l => .sl (l.map (cI .u8))) (fun _ => rfl) (one_slice Tryz.underlying44) Tup.nil))))) (by kernel_rfl) (by kernel_rfl) (by kernel_rfl) (by kernel_rfl) Tryz.underlying4 rfl (fun ds h => by
      match ds, h with
      | [d0, d1, d2, d3, d4], _ => rfl) hval hW
    fun y hy _ => core y.1 y.2.1 y.2.2.1 y.2.2.2.1 y.2.2.2.2.1 hy.1 hy.2.1 hy.2.2.1 hy.2.2.2.1 hy.2.2.2.2.1

set_option maxRecDepth 100000 in
theorem lifted (os : Os) (started : os.Started) (H : Type) (enc : TypeId × Value → H) :
    ReturnsInHanded {} Tryz.checked os 4 .any (Rows.searchBestSpec.pre6 enc Tryz.prog Tryz.f4 Rows.searchBestRow.domain false) (Rows.searchBestSpec.post enc Tryz.prog Tryz.f4 false true false false) := by
  refine returnsInHanded_of_change (C := Tryz.checked) own started (by kernel_rfl) Tryz.func4
    (ChangeSpec.witness6 (enc := enc) (C := Tryz.checked) false ⟨#[], #[.int .u8 0, .int .u8 0, .int .u8 0, .slice none 0 0, .slice none 0 0], []⟩ 8 (by kernel_rfl) (by kernel_rfl) (by kernel_rfl) (by kernel_rfl)) ?_
  intro W base args ds gs before hval hW _ _
  exact contract H enc W base args ds gs before hval hW

theorem fact0 : (Rows.searchBestRow.wf (OpenSpec.ofChange Rows.searchBestSpec)) = true := by kernel_rfl
theorem fact1 : (laidOutB Tryz.prog) = true := by kernel_rfl
theorem fact2 : (mapsRowed Tryz.prog) = true := by kernel_rfl
theorem fact3 : (Tryz.f4.params.all (Tryz.prog.readableRec ·)) = true := by kernel_rfl
theorem fact4 : (namedTie Tryz.prog Rows.searchBestRow.named Rows.searchBestSpec.vars) = true := by kernel_rfl
theorem fact5 : ((Rows.searchBestRow.stops == [])) = true := by kernel_rfl
theorem fact6 : ((Tryz.prog.stops == [])) = true := by kernel_rfl
theorem fact7 : ((Rows.searchBestRow.knobs == [])) = true := by kernel_rfl
theorem fact8 : ((Tryz.prog.stopKnobs == [])) = true := by kernel_rfl
theorem fact9 : ((Rows.searchBestRow.inPlace == Tryz.prog.inPlace 4)) = true := by kernel_rfl
theorem fact10 : ((Rows.searchBestRow.unfollowed == Tryz.prog.unfollowed 4)) = true := by kernel_rfl
theorem fact11 : ((Rows.searchBestRow.recurses == Tryz.prog.recurses 4)) = true := by kernel_rfl
theorem fact12 : ((Rows.searchBestRow.named == Tryz.prog.varsNamed 4)) = true := by kernel_rfl
theorem fact13 : ((Rows.searchBestRow.maps == (Tryz.f4.params.toList ++ Rows.searchBestSpec.plain.varTypes Tryz.prog).any (Tryz.prog.mapsRec ·))) = true := by kernel_rfl
theorem fact14 : ((Rows.searchBestRow.ifaces == (Tryz.f4.params.toList ++ Rows.searchBestSpec.plain.varTypes Tryz.prog).any (Tryz.prog.ifacesRec ·))) = true := by kernel_rfl
theorem fact15 : ((Rows.searchBestRow.mapsOut == Tryz.prog.mapsAmong Tryz.f4.resultTypes.toList)) = true := by kernel_rfl
theorem fact16 : ((Rows.searchBestRow.loops == (Tryz.f4.params.toList ++ Rows.searchBestSpec.plain.varTypes Tryz.prog).any (Tryz.prog.loopsFrom ·))) = true := by kernel_rfl
theorem fact17 : ((Rows.searchBestRow.wideKeys == (Tryz.f4.params.toList ++ Rows.searchBestSpec.plain.varTypes Tryz.prog ++ Tryz.f4.resultTypes.toList).any (Tryz.prog.wideKeysFrom ·))) = true := by kernel_rfl
theorem fact18 : (Rows.searchBestSpec.vars.all (Tryz.prog.varReadable ·)) = true := by kernel_rfl
theorem fact19 : (Tryz.f4.resultTypes.all (fun t => Tryz.prog.readableRec t && decide (t < Tryz.prog.types.size))) = true := by kernel_rfl
theorem fact20 : ((Rows.searchBestRow.ifacesOut == Tryz.f4.resultTypes.toList.any (Tryz.prog.ifacesRec ·))) = true := by kernel_rfl
theorem fact21 : ((Rows.searchBestRow.loopsOut == Tryz.f4.resultTypes.toList.any (Tryz.prog.loopsFrom ·))) = true := by kernel_rfl
theorem fact22 : ((Rows.searchBestRow.plainKeys == Tryz.prog.plainKeys)) = true := by kernel_rfl
theorem fact23 : (Rows.searchBestRow.shortTexts.isNone) = true := by kernel_rfl
theorem fact24 : (Tryz.prog.stopsHeard) = true := by kernel_rfl
theorem fact25 : (Tryz.prog.mayEnter) = true := by kernel_rfl
theorem fact26 : ((Rows.searchBestRow.lifted == Tryz.prog.liftsFinal)) = true := by kernel_rfl
theorem fact27 : ((Tryz.prog.make == some Rows.searchBestRow.make)) = true := by kernel_rfl
theorem fact28 : ((Rows.searchBestRow.kinds == (if Rows.searchBestRow.domain.isEmpty then [] else Tryz.f4.params.toList.map fun t => match Tryz.prog.underlying t with | some (.int k) => some k | _ => none))) = true := by kernel_rfl
theorem fact29 : ((Rows.searchBestRow.pinned == Rows.searchBestRow.pinnedBy)) = true := by kernel_rfl
theorem fact30 : ((Rows.searchBestRow.veiled == (Tryz.f4.params.toList ++ Rows.searchBestSpec.plain.varTypes Tryz.prog ++ Tryz.f4.resultTypes.toList).any (Tryz.prog.veiledRec ·))) = true := by kernel_rfl
theorem fact31 : (Rows.searchBestRow.veiledFits Tryz.prog Tryz.f4.params.toList (Tryz.f4.params.toList ++ Rows.searchBestSpec.plain.varTypes Tryz.prog ++ Tryz.f4.resultTypes.toList)) = true := by kernel_rfl
theorem and_t {a b : Bool} (h : a = true) (k : b = true) : (a && b) = true := by rw [h, k]; rfl
set_option maxRecDepth 100000 in
theorem closed : joinedFacts Tryz.prog 4 Tryz.f4 Rows.searchBestSpec Rows.searchBestRow = true := by
  unfold joinedFacts
  exact and_t (and_t (and_t (and_t (and_t (and_t (and_t (and_t (and_t (and_t (and_t (and_t (and_t (and_t (and_t (and_t (and_t (and_t (and_t (and_t (and_t (and_t (and_t (and_t (and_t (and_t (and_t (and_t (and_t (and_t (and_t (fact0) fact1) fact2) fact3) fact4) fact5) fact6) fact7) fact8) fact9) fact10) fact11) fact12) fact13) fact14) fact15) fact16) fact17) fact18) fact19) fact20) fact21) fact22) fact23) fact24) fact25) fact26) fact27) fact28) fact29) fact30) fact31

theorem over : Rows.searchBestRow.holds Tryz.pinned (OpenSpec.ofChange Rows.searchBestSpec) :=
  OpenClaim.holds_of_wide 4 Tryz.f4 rfl rfl rfl rfl rfl rfl rfl ⟨rfl, rfl, rfl, rfl, rfl⟩ rfl rfl rfl rfl rfl (by kernel_rfl) Tryz.func4 closed
    (of_decide_eq_true (by kernel_rfl)) (by unfold Func.isWrapper; first | (rw [if_pos (by decide +kernel)]; kernel_rfl) | (rw [if_neg (by decide +kernel)]; exact ⟨rfl, rfl⟩))
    (fun os started H enc _ => lifted os started H enc)

theorem proved : Rows.SearchBestSaid :=
  over
end Go.Proofs.YtpefcgiiigdcdaaGreat.searchBest
end
