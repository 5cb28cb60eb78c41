/-
  TEXTS PUT TOGETHER: PlSh, PlSh2, PlSh3, PlSh4, PlSort, PlSh5, PlSh6, PlOr, PlOr2, PlOr3, PlOr4, PlFree.
-/
import Derived.Test.YtpefcgiiigdcdaaGreatPA
import Derived.Test.YtpefcgiiigdcdaaGreatTA
section
/-
  PLAIN LAW: SHAPES (right ones, costs).
-/
namespace Go.Ab.M
set_option linter.unusedVariables false
set_option linter.unusedSimpArgs false

/-- does the pair at a place fit? -/
def Shape.fits (s : Shape) (i : Nat) : Bool :=
  decide (0 ≤ (nth s.All i).From) && decide ((nth s.All i).From < s.Ins + s.Mids) && decide (s.Ins ≤ (nth s.All i).To) && decide ((nth s.All i).To < s.Ins + s.Mids + s.Outs) && decide ((nth s.All i).From < (nth s.All i).To) &&
    (decide (i = 0) || decide ((nth s.All (i - 1)).From < (nth s.All i).From) || decide ((nth s.All (i - 1)).From = (nth s.All i).From) && decide ((nth s.All (i - 1)).To < (nth s.All i).To))
def Shape.sized (s : Shape) : Bool := decide (1 ≤ s.Ins) && decide (s.Ins ≤ 40) && decide (1 ≤ s.Outs) && decide (s.Outs ≤ 40) && decide (0 ≤ s.Mids) && decide (s.Mids ≤ 400)
def Shape.right (s : Shape) : Bool := s.sized && (List.range s.All.length).all s.fits
def Shape.isMid (s : Shape) (v : Int) : Bool := decide (s.Ins ≤ v) && decide (v < s.Ins + s.Mids)

theorem sized_iff {s : Shape} : s.sized = true ↔ (1 ≤ s.Ins ∧ s.Ins ≤ 40 ∧ 1 ≤ s.Outs ∧ s.Outs ≤ 40 ∧ 0 ≤ s.Mids ∧ s.Mids ≤ 400) := by
  simp only [Shape.sized, Bool.and_eq_true, decide_eq_true_eq]; omega
theorem right_sized {s : Shape} (h : s.right = true) : 1 ≤ s.Ins ∧ s.Ins ≤ 40 ∧ 1 ≤ s.Outs ∧ s.Outs ≤ 40 ∧ 0 ≤ s.Mids ∧ s.Mids ≤ 400 := by
  simp only [Shape.right, Bool.and_eq_true] at h
  exact sized_iff.1 h.1

def cmpI (x y : Int) : Int := if x < y then -1 else if y < x then 1 else 0
theorem cmp_Compare_eq (x y : Int) : cmp_Compare_int x y = some (cmpI x y) := by
  simp only [cmp_Compare_int, cmp_isNaN_int, cmpI, Option.bind_some, bne_self_eq_false, cond_false, Bool.cond_decide]
  repeat' split
  all_goals rfl
theorem cmp_Or_eq (x y : Int) : cmp_Or_int [x, y] = some (if x ≠ 0 then x else y) := by
  have h0 : cmp_Or_int_l_rd [x, y] 0 = some (if x ≠ 0 then .inr (.inl x) else .inl 1) := by
    simp only [cmp_Or_int_l_rd, nth]
    by_cases h : x = 0
    · simp [h, inK, lo, hi]
    · have : (x != 0) = true := by simpa using h
      simp [h, this]
  have h1 : cmp_Or_int_l_rd [x, y] 1 = some (if y ≠ 0 then .inr (.inl y) else .inl 2) := by
    simp only [cmp_Or_int_l_rd, nth]
    by_cases h : y = 0
    · simp [h, inK, lo, hi]
    · have : (y != 0) = true := by simpa using h
      simp [h, this]
  have h2 : cmp_Or_int_l_rd [x, y] 2 = some (.inr (.inr ())) := by simp [cmp_Or_int_l_rd]
  unfold cmp_Or_int cmp_Or_int_l
  by_cases e0 : x = 0
  · by_cases e1 : y = 0
    · rw [loop_run (round := fun σ => cmp_Or_int_l_rd [x, y] σ) (fun i => i) 2 (r := .inr ()) (fun i hi => ?_) h2 (by decide)]
      · simp [e0, e1]
      · rcases i with _ | _ | i
        · rw [h0]; simp [e0]
        · rw [h1]; simp [e1]
        · omega
    · rw [loop_run (round := fun σ => cmp_Or_int_l_rd [x, y] σ) (fun i => i) 1 (r := .inl y) (fun i hi => ?_) (by rw [h1]; simp [e1]) (by decide)]
      · simp [e0]
      · rcases i with _ | i
        · rw [h0]; simp [e0]
        · omega
  · rw [loop_run (round := fun σ => cmp_Or_int_l_rd [x, y] σ) (fun i => i) 0 (r := .inl x) (fun i hi => by omega) (by rw [h0]; simp [e0]) (by decide)]
    simp [e0]
theorem shape_order_eq (p q : Pair) : shape_order p q = some (if cmpI p.From q.From ≠ 0 then cmpI p.From q.From else cmpI p.To q.To) := by
  simp [shape_order, cmp_Compare_eq, cmp_Or_eq]
theorem order_ge (p q : Pair) : ((if cmpI p.From q.From ≠ 0 then cmpI p.From q.From else cmpI p.To q.To) ≥ 0) ↔ ¬ (p.From < q.From ∨ (p.From = q.From ∧ p.To < q.To)) := by
  simp only [cmpI]
  repeat' split
  all_goals omega

theorem Right_rd {s : Shape} {i : Nat} (h : s.sized = true) (hl : s.All.length ≤ 2000000) (hi : i < s.All.length) : shape_Right_l_rd s i = some (if s.fits i = true then .inl (i + 1) else .inr (.inl ())) := by
  rw [sized_iff] at h
  have e1 : (((i : Nat) : Int) - 1).toNat = i - 1 := by omega
  simp (disch := omega) only [shape_Right_l_rd, shape_many, shape_order_eq, order_ge, e1, Bool.cond_decide, if_t, if_f, inK_i64, cond_true, Option.bind_some, Shape.fits, Bool.and_eq_true, Bool.or_eq_true, decide_eq_true_eq]
  repeat' split
  all_goals first | rfl | omega
theorem Right_rd_end {s : Shape} : shape_Right_l_rd s s.All.length = some (.inr (.inr ())) := by
  simp [shape_Right_l_rd]
theorem shape_Right_eq {s : Shape} (hl : s.All.length ≤ 2000000) : shape_Right s = some s.right := by
  by_cases h : s.sized = true
  · have hs := sized_iff.1 h
    have e : shape_Right_l s 0 = some (if (List.range s.All.length).all s.fits = true then .inr () else .inl ()) := by
      unfold shape_Right_l
      exact loop_all (round := fun σ => shape_Right_l_rd s σ) s.fits s.All.length (.inr ()) (.inl ()) (fun i hi hp => by rw [Right_rd h hl hi, if_pos hp]) (fun i hi hp => by rw [Right_rd h hl hi, if_neg (by simp [hp])]) Right_rd_end (by simp only [FU]; omega)
    simp (disch := omega) only [shape_Right, Bool.cond_decide, if_f, e, Option.bind_some, Shape.right, h, Bool.true_and]
    split
    · rename_i h1; rw [h1]; rfl
    · rename_i h1; rw [Bool.not_eq_true] at h1; rw [h1]; rfl
  · have hs := fun q => h (sized_iff.2 q)
    rw [Bool.not_eq_true] at h
    simp only [shape_Right, Shape.right, h, Bool.false_and, Bool.cond_decide]
    repeat' split
    all_goals first | rfl | exact (hs (by omega)).elim

theorem shape_mid_eq {s : Shape} (h : s.right = true) (v : Int) : shape_mid s v = some (s.isMid v) := by
  have hs := right_sized h
  simp (disch := omega) only [shape_mid, Bool.cond_decide, inK_i64, cond_true, Shape.isMid, ge_iff_le]
  split
  · rename_i h1; simp [h1]
  · rename_i h1; simp [h1]
def insOf (l : List Pair) (v : Int) : List Int := (l.filter fun p => p.To == v).map (·.From)
def outsOf (l : List Pair) (v : Int) : List Int := (l.filter fun p => p.From == v).map (·.To)
theorem insOf_step {l : List Pair} {v : Int} {i : Nat} (h : i < l.length) : insOf (l.take (i + 1)) v = if (nth l i).To = v then insOf (l.take i) v ++ [(nth l i).From] else insOf (l.take i) v := by
  rw [take_nth h]
  simp only [insOf, List.filter_append, List.map_append, List.filter_cons, List.filter_nil, beq_iff_eq]
  split <;> simp
theorem outsOf_step {l : List Pair} {v : Int} {i : Nat} (h : i < l.length) : outsOf (l.take (i + 1)) v = if (nth l i).From = v then outsOf (l.take i) v ++ [(nth l i).To] else outsOf (l.take i) v := by
  rw [take_nth h]
  simp only [outsOf, List.filter_append, List.map_append, List.filter_cons, List.filter_nil, beq_iff_eq]
  split <;> simp
theorem insOf_len (l : List Pair) (v : Int) : (insOf l v).length ≤ l.length := by simp only [insOf, List.length_map]; exact List.length_filter_le _ _
theorem outsOf_len (l : List Pair) (v : Int) : (outsOf l v).length ≤ l.length := by simp only [outsOf, List.length_map]; exact List.length_filter_le _ _

theorem shape_ends_eq {s : Shape} (hl : s.All.length ≤ 2000000) (v : Int) : shape_ends s v = some (insOf s.All v, outsOf s.All v) := by
  have e : shape_ends_l s v [] [] 0 = some (insOf s.All v, outsOf s.All v) := by
    unfold shape_ends_l
    refine loop_run (fun i => (insOf (s.All.take i) v, outsOf (s.All.take i) v, i)) s.All.length (fun i hi => ?_) ?_ (by simp only [FU]; omega)
    · have h1 := insOf_len (s.All.take i) v
      have h2 := outsOf_len (s.All.take i) v
      simp only [List.length_take] at h1 h2
      simp (disch := omega) only [shape_ends_l_rd, insOf_step hi, outsOf_step hi, Bool.cond_eq_ite, decide_eq_true_eq, beq_iff_eq, bne_iff_ne, ne_eq, Bool.not_eq_true', inK_i64, if_t, if_f, ite_true, ite_false, eq_self, Option.bind_some]
      repeat' split
      all_goals rfl
    · simp [shape_ends_l_rd]
  simp [shape_ends, e]

def Shape.cost (s : Shape) (v : Int) : Int := if s.right = true ∧ s.isMid v = true then ((insOf s.All v).length : Int) * ((outsOf s.All v).length : Int) else 0
theorem mul_ok {a b : Nat} (ha : a ≤ 2000000) (hb : b ≤ 2000000) : inK .i64 ((a : Int) * (b : Int)) = true := by
  have h : a * b ≤ 2000000 * 2000000 := Nat.mul_le_mul ha hb
  have e : (a : Int) * (b : Int) = ((a * b : Nat) : Int) := by simp
  exact inK_i64 (by omega) (by omega)
theorem shape_Cost_eq {s : Shape} (hl : s.All.length ≤ 2000000) (v : Int) : shape_Cost s v = some (s.cost v) := by
  simp only [shape_Cost, shape_Right_eq hl, Option.bind_some, Shape.cost]
  cases h : s.right with
  | false => simp
  | true =>
    simp only [Bool.not_true, cond_false, shape_mid_eq h, Option.bind_some]
    cases hm : s.isMid v with
    | false => simp
    | true =>
      have h1 := insOf_len s.All v
      have h2 := outsOf_len s.All v
      simp [shape_ends_eq hl, mul_ok (a := (insOf s.All v).length) (b := (outsOf s.All v).length) (by omega) (by omega)]
def Shape.has (s : Shape) (a b : Int) : Bool := decide (Pair.mk a b ∈ s.All)
end Go.Ab.M
end

section
/-
  PLAIN LAW: SHAPES (what is left without a vertex).
-/
namespace Go.Ab.M
set_option linter.unusedVariables false
set_option linter.unusedSimpArgs false

/-- all rows are of words -/
def AllW (L : List (Nat → Int)) : Prop := ∀ i, i < L.length → WF (nth L i)
theorem nth_set {α : Type} [Inhabited α] {l : List α} {i j : Nat} {x : α} (h : i < l.length) : nth (l.set i x) j = if j = i then x else nth l j := by
  simp only [nth, List.getD, List.getElem?_set]
  by_cases e : i = j
  · subst e; simp [h]
  · rw [if_neg e, if_neg (Ne.symm e)]
theorem put_eq {L : List (Nat → Int)} (hW : AllW L) {bi v : Nat} (hb : bi < L.length) (hv : v < 512) : ∃ L', shape_bits_put L bi (v : Int) = some L' ∧ L'.length = L.length ∧ AllW L' ∧ ∀ a b, hasF (nth L' a) b = (hasF (nth L a) b || (decide (a = bi) && decide (b = v))) := by
  have e1 : (((v : Nat) : Int) / 64).toNat = v / 64 := by omega
  have e2 : ((v : Nat) : Int) % 64 = ((v % 64 : Nat) : Int) := by omega
  have hp := put_has (hW bi hb) v
  refine ⟨L.set bi (putF (nth L bi) (v / 64) (orI' .u64 (nth L bi (v / 64)) (shlI .u64 1 ((v : Int) % 64)))), ?_, List.length_set .., ?_, fun a b => ?_⟩
  · simp (disch := omega) only [shape_bits_put, e1, Bool.cond_decide, if_t]
  · intro i hi
    rw [nth_set hb]
    split
    · rw [e2]; exact hp.1
    · exact hW i (by simpa using hi)
  · rw [nth_set hb]
    by_cases e : a = bi
    · subst e
      rw [if_pos rfl, e2, hp.2]
      simp
    · rw [if_neg e]; simp [e]
theorem drop_eq {L : List (Nat → Int)} (hW : AllW L) {bi v : Nat} (hb : bi < L.length) (hv : v < 512) : ∃ L', shape_bits_drop L bi (v : Int) = some L' ∧ L'.length = L.length ∧ AllW L' ∧ ∀ a b, hasF (nth L' a) b = (hasF (nth L a) b && !(decide (a = bi) && decide (b = v))) := by
  have e1 : (((v : Nat) : Int) / 64).toNat = v / 64 := by omega
  have e2 : ((v : Nat) : Int) % 64 = ((v % 64 : Nat) : Int) := by omega
  have hp := drop_has (hW bi hb) v
  refine ⟨L.set bi (putF (nth L bi) (v / 64) (andNotI .u64 (nth L bi (v / 64)) (shlI .u64 1 ((v : Int) % 64)))), ?_, List.length_set .., ?_, fun a b => ?_⟩
  · simp (disch := omega) only [shape_bits_drop, e1, Bool.cond_decide, if_t]
  · intro i hi
    rw [nth_set hb]
    split
    · rw [e2]; exact hp.1
    · exact hW i (by simpa using hi)
  · rw [nth_set hb]
    by_cases e : a = bi
    · subst e
      rw [if_pos rfl, e2, hp.2]
      simp
    · rw [if_neg e]; simp [e]
theorem has_eq {L : List (Nat → Int)} (hW : AllW L) {bi v : Nat} (hb : bi < L.length) (hv : v < 512) : shape_bits_has L bi (v : Int) = some (hasF (nth L bi) v) := by
  have e1 : (((v : Nat) : Int) / 64).toNat = v / 64 := by omega
  have e2 : ((v : Nat) : Int) % 64 = ((v % 64 : Nat) : Int) := by omega
  simp (disch := omega) only [shape_bits_has, e1, Bool.cond_decide, if_t]
  rw [e2, has_bit (hW bi hb (v / 64)) (Nat.mod_lt v (by omega))]
  rfl
/-! ### a right shape in natural numbers -/
def Shape.n (s : Shape) : Nat := (s.Ins + s.Mids + s.Outs).toNat
theorem right_pair {s : Shape} (h : s.right = true) {p : Pair} (hp : p ∈ s.All) : 0 ≤ p.From ∧ p.From < s.Ins + s.Mids ∧ s.Ins ≤ p.To ∧ p.To < s.Ins + s.Mids + s.Outs ∧ p.From < p.To := by
  obtain ⟨i, hi, e⟩ := List.getElem_of_mem hp
  simp only [Shape.right, Bool.and_eq_true] at h
  have := List.all_eq_true.1 h.2 i (by simpa using hi)
  simp only [Shape.fits, Bool.and_eq_true, decide_eq_true_eq, nth_get hi, e] at this
  omega
theorem n_le {s : Shape} (h : s.right = true) : s.n ≤ 480 ∧ (s.n : Int) = s.Ins + s.Mids + s.Outs := by
  have := right_sized h
  simp only [Shape.n]; omega

theorem rows_eq {s : Shape} (h : s.right = true) (hl : s.All.length ≤ 2000000) : ∃ L, shape_rows s = some L ∧ shape_rows_2 s = some L ∧ L.length = s.n ∧ AllW L ∧ ∀ a b, a < s.n → hasF (nth L a) b = s.has a b := by
  have hs := right_sized h
  have hn := n_le h
  have e0 : (s.Ins + s.Mids + s.Outs).toNat = s.n := rfl
  have hmany : shape_many s = some (s.Ins + s.Mids + s.Outs) := by
    simp (disch := omega) only [shape_many, inK_i64, cond_true]
  have key : ∃ L, shape_rows_l s (s.Ins + s.Mids + s.Outs) 0 (List.replicate s.n (fun _ => 0)) = some L ∧ (L.length = s.n ∧ AllW L ∧ ∀ a b, a < s.n → hasF (nth L a) b = s.has a b) := by
    unfold shape_rows_l
    refine loop_inv (fun i σ => σ.1 = i ∧ σ.2.length = s.n ∧ AllW σ.2 ∧ ∀ a b, a < s.n → hasF (nth σ.2 a) b = decide (Pair.mk (a : Int) (b : Int) ∈ s.All.take i)) s.All.length (0, List.replicate s.n (fun _ => 0)) ?_ ?_ ?_ (by simp only [FU]; omega)
    · refine ⟨rfl, by simp, fun i hi => ?_, fun a b ha => ?_⟩
      · have : nth (List.replicate s.n (fun _ : Nat => (0 : Int))) i = fun _ => 0 := by simp [nth, List.getD, List.getElem?_replicate]; simp at hi; simp [hi]
        simp only [this]; exact wf_zero
      · have : nth (List.replicate s.n (fun _ : Nat => (0 : Int))) a = fun _ => 0 := by simp [nth, List.getD, List.getElem?_replicate, ha]
        simp only [this, has_zero]; simp
    · rintro i ⟨j, L⟩ hi ⟨h0, h1, h2, h3⟩
      simp only at h0 h1 h2 h3
      subst h0
      have hp := right_pair h (nth_mem hi)
      obtain ⟨f, hf⟩ : ∃ f : Nat, (nth s.All j).From = f := ⟨(nth s.All j).From.toNat, by omega⟩
      obtain ⟨t, ht⟩ : ∃ t : Nat, (nth s.All j).To = t := ⟨(nth s.All j).To.toNat, by omega⟩
      rw [hf, ht] at hp
      obtain ⟨L', g1, g2, g3, g4⟩ := put_eq h2 (bi := f) (v := t) (by omega) (by omega)
      refine ⟨(j + 1, L'), ?_, rfl, by simp only; omega, g3, fun a b ha => ?_⟩
      · simp (disch := omega) only [shape_rows_l_rd, hf, ht, Int.toNat_natCast, g1, Bool.cond_decide, if_t, Option.bind_some, inK_i64, cond_true]
      · simp only [g4, h3 a b ha, take_nth hi, List.mem_append, List.mem_singleton]
        have : (Pair.mk (a : Int) (b : Int) = nth s.All j) ↔ (a = f ∧ b = t) := by
          cases hq : nth s.All j with
          | mk x y =>
            rw [hq] at hf ht
            simp only [Pair.mk.injEq] at hf ht ⊢
            omega
        simp only [this, Bool.decide_or, Bool.decide_and]
    · rintro ⟨j, L⟩ ⟨h0, h1, h2, h3⟩
      simp only at h0 h1 h2 h3
      subst h0
      refine ⟨L, by simp [shape_rows_l_rd], h1, h2, fun a b ha => ?_⟩
      rw [h3 a b ha, List.take_length]; rfl
  obtain ⟨L, h1, h2⟩ := key
  refine ⟨L, ?_, ?_, h2⟩
  · simp (disch := omega) only [shape_rows, hmany, Option.bind_some, Bool.cond_decide, if_t, e0, h1]
  · simp (disch := omega) only [shape_rows_2, hmany, Option.bind_some, Bool.cond_decide, if_t, e0, h1]

theorem mem_ins {s : Shape} {v a : Int} : a ∈ insOf s.All v ↔ Pair.mk a v ∈ s.All := by
  simp only [insOf, List.mem_map, List.mem_filter, beq_iff_eq]
  constructor
  · rintro ⟨p, ⟨h1, h2⟩, h3⟩
    cases p; simp only at h2 h3; subst h2; subst h3; exact h1
  · intro h; exact ⟨_, ⟨h, rfl⟩, rfl⟩
theorem mem_outs {s : Shape} {v a : Int} : a ∈ outsOf s.All v ↔ Pair.mk v a ∈ s.All := by
  simp only [outsOf, List.mem_map, List.mem_filter, beq_iff_eq]
  constructor
  · rintro ⟨p, ⟨h1, h2⟩, h3⟩
    cases p; simp only at h2 h3; subst h2; subst h3; exact h1
  · intro h; exact ⟨_, ⟨h, rfl⟩, rfl⟩

def pairsTo (n : Nat) (P : Nat → Nat → Bool) (i : Nat) : List Pair := (List.range i).flatMap fun a => ((List.range n).filter (P a)).map fun (b : Nat) => Pair.mk (a : Int) (b : Int)
def rowTo (P : Nat → Nat → Bool) (a j : Nat) : List Pair := ((List.range j).filter (P a)).map fun (b : Nat) => Pair.mk (a : Int) (b : Int)
theorem rowTo_step (P : Nat → Nat → Bool) (a j : Nat) : rowTo P a (j + 1) = if P a j = true then rowTo P a j ++ [Pair.mk (a : Int) (j : Int)] else rowTo P a j := by
  simp only [rowTo, List.range_succ, List.filter_append, List.map_append, List.filter_cons, List.filter_nil]
  split <;> simp
theorem pairsTo_step (n : Nat) (P : Nat → Nat → Bool) (i : Nat) : pairsTo n P (i + 1) = pairsTo n P i ++ rowTo P i n := by
  simp [pairsTo, rowTo, List.range_succ]
theorem rowTo_len (P : Nat → Nat → Bool) (a j : Nat) : (rowTo P a j).length ≤ j := by
  simp only [rowTo, List.length_map]
  have := List.length_filter_le (P a) (List.range j)
  simpa using this
theorem pairsTo_len (n : Nat) (P : Nat → Nat → Bool) : ∀ i, (pairsTo n P i).length ≤ i * n
  | 0 => by simp [pairsTo]
  | i + 1 => by
    rw [pairsTo_step, List.length_append, Nat.add_mul]
    have := pairsTo_len n P i
    have := rowTo_len P i n
    omega
theorem pairsTo_congr {n : Nat} {P Q : Nat → Nat → Bool} (h : ∀ a b, a < n → b < n → P a b = Q a b) : ∀ i, i ≤ n → pairsTo n P i = pairsTo n Q i
  | 0, _ => rfl
  | i + 1, hi => by
    rw [pairsTo_step, pairsTo_step, pairsTo_congr h i (by omega)]
    congr 1
    simp only [rowTo]
    congr 1
    apply List.filter_congr
    intro b hb
    exact h i b (by omega) (by simpa using hb)
theorem mem_pairsTo {n : Nat} {P : Nat → Nat → Bool} {i : Nat} {p : Pair} : p ∈ pairsTo n P i ↔ ∃ a b : Nat, a < i ∧ b < n ∧ P a b = true ∧ p = Pair.mk a b := by
  simp only [pairsTo, List.mem_flatMap, List.mem_map, List.mem_filter, List.mem_range]
  constructor
  · rintro ⟨a, ha, b, ⟨hb, hp⟩, rfl⟩; exact ⟨a, b, ha, hb, hp, rfl⟩
  · rintro ⟨a, b, ha, hb, hp, rfl⟩; exact ⟨a, ha, b, ⟨hb, hp⟩, rfl⟩
end Go.Ab.M
end

section
/-
  PLAIN LAW: SHAPES (the next shape, twice).
-/
namespace Go.Ab.M
set_option linter.unusedVariables false
set_option linter.unusedSimpArgs false

theorem has_lt {s : Shape} (h : s.right = true) {a b : Nat} (hh : s.has (a : Int) (b : Int) = true) : a < b ∧ b < s.n := by
  have hn := n_le h
  simp only [Shape.has, decide_eq_true_eq] at hh
  have := right_pair h hh
  simp only at this
  omega
theorem has_self {s : Shape} (h : s.right = true) (a : Nat) : s.has (a : Int) (a : Int) = false := by
  cases e : s.has (a : Int) (a : Int)
  · rfl
  · have := has_lt h e; omega
theorem ins_has {s : Shape} {a w : Int} : a ∈ insOf s.All w ↔ s.has a w = true := by simp only [mem_ins, Shape.has, decide_eq_true_eq]
theorem outs_has {s : Shape} {w b : Int} : b ∈ outsOf s.All w ↔ s.has w b = true := by simp only [mem_outs, Shape.has, decide_eq_true_eq]
theorem ins_nat {s : Shape} (h : s.right = true) {w : Nat} {i : Nat} (hi : i < (insOf s.All w).length) : ∃ f : Nat, nth (insOf s.All w) i = f ∧ f < s.n ∧ f < w ∧ s.has (f : Int) (w : Int) = true := by
  have hm := nth_mem hi
  have hm2 := ins_has.1 hm
  have hp := right_pair h (mem_ins.1 hm)
  simp only at hp
  have hn := n_le h
  obtain ⟨f, e⟩ : ∃ f : Nat, nth (insOf s.All w) i = f := ⟨(nth (insOf s.All w) i).toNat, by omega⟩
  rw [e] at hp hm2
  exact ⟨f, e, by omega, by omega, hm2⟩
theorem outs_nat {s : Shape} (h : s.right = true) {w : Nat} {i : Nat} (hi : i < (outsOf s.All w).length) : ∃ f : Nat, nth (outsOf s.All w) i = f ∧ f < s.n ∧ w < f ∧ s.has (w : Int) (f : Int) = true := by
  have hm := nth_mem hi
  have hm2 := outs_has.1 hm
  have hp := right_pair h (mem_outs.1 hm)
  simp only at hp
  have hn := n_le h
  obtain ⟨f, e⟩ : ∃ f : Nat, nth (outsOf s.All w) i = f := ⟨(nth (outsOf s.All w) i).toNat, by omega⟩
  rw [e] at hp hm2
  exact ⟨f, e, by omega, by omega, hm2⟩

/-- the inner loop of the joins -/
theorem Next_l_2_eq {s : Shape} (h : s.right = true) (hl : s.All.length ≤ 2000000) {w i f : Nat} (t : Shape) (hf : nth (insOf s.All w) i = (f : Int)) (hf2 : f < s.n) {L0 : List (Nat → Int)} (hL : L0.length = s.n) (hW : AllW L0) :
    ∃ L, shape_Next_l_2 t w (insOf s.All w, outsOf s.All w) i 0 L0 = some L ∧ (L.length = s.n ∧ AllW L ∧ ∀ a b, hasF (nth L a) b = (hasF (nth L0 a) b || (decide (a = f) && s.has (w : Int) (b : Int)))) := by
  have hlen := outsOf_len s.All w
  have hn := n_le h
  unfold shape_Next_l_2
  refine loop_inv (fun j σ => σ.1 = j ∧ σ.2.length = s.n ∧ AllW σ.2 ∧ ∀ a b, hasF (nth σ.2 a) b = (hasF (nth L0 a) b || (decide (a = f) && decide ((b : Int) ∈ (outsOf s.All w).take j)))) (outsOf s.All w).length (0, L0) ?_ ?_ ?_ (by simp only [FU]; omega)
  · exact ⟨rfl, hL, hW, fun a b => by simp⟩
  · rintro j ⟨k, L⟩ hj ⟨h0, h1, h2, h3⟩
    simp only at h0 h1 h2 h3
    subst h0
    obtain ⟨g, hg, hg2, -, -⟩ := outs_nat h hj
    obtain ⟨L', g1, g2, g3, g4⟩ := put_eq h2 (bi := f) (v := g) (by omega) (by omega)
    refine ⟨(k + 1, L'), ?_, rfl, by simp only; omega, g3, fun a b => ?_⟩
    · simp (disch := omega) only [shape_Next_l_2_rd, hf, hg, Int.toNat_natCast, g1, Bool.cond_decide, if_t, Option.bind_some, inK_i64, cond_true]
    · simp only [g4, h3, take_nth hj, List.mem_append, List.mem_singleton, hg, Bool.decide_or, Int.ofNat_inj]
      cases hasF (nth L0 a) b <;> cases decide (a = f) <;> simp
  · rintro ⟨k, L⟩ ⟨h0, h1, h2, h3⟩
    simp only at h0 h1 h2 h3
    subst h0
    refine ⟨L, by simp [shape_Next_l_2_rd], h1, h2, fun a b => ?_⟩
    rw [h3 a b, List.take_length]
    congr 2
    simp only [outs_has, Bool.decide_eq_true]
theorem Next_l_eq {s : Shape} (h : s.right = true) (hl : s.All.length ≤ 2000000) {w : Nat} (hw : w < s.n) (t : Shape) {L0 : List (Nat → Int)} (hL : L0.length = s.n) (hW : AllW L0) (hH : ∀ a b, a < s.n → hasF (nth L0 a) b = s.has a b) :
    ∃ L, shape_Next_l t w (insOf s.All w, outsOf s.All w) 0 L0 = some L ∧ (L.length = s.n ∧ AllW L ∧ ∀ a b, a < s.n → hasF (nth L a) b = (decide (b ≠ w) && (s.has a b || (s.has (a : Int) (w : Int) && s.has (w : Int) (b : Int))))) := by
  have hlen := insOf_len s.All w
  have hn := n_le h
  unfold shape_Next_l
  refine loop_inv (fun j σ => σ.1 = j ∧ σ.2.length = s.n ∧ AllW σ.2 ∧ ∀ a b, a < s.n → hasF (nth σ.2 a) b = ((s.has a b && !(decide ((a : Int) ∈ (insOf s.All w).take j) && decide (b = w))) || (decide ((a : Int) ∈ (insOf s.All w).take j) && s.has (w : Int) (b : Int)))) (insOf s.All w).length (0, L0) ?_ ?_ ?_ (by simp only [FU]; omega)
  · refine ⟨rfl, hL, hW, fun a b ha => ?_⟩
    simp only [List.take_zero, List.not_mem_nil, decide_false, Bool.false_and, Bool.not_false, Bool.and_true, Bool.or_false]
    exact hH a b ha
  · rintro j ⟨k, L⟩ hj ⟨h0, h1, h2, h3⟩
    simp only at h0 h1 h2 h3
    subst h0
    obtain ⟨f, hf, hf2, -, -⟩ := ins_nat h hj
    obtain ⟨L', g1, g2, g3, g4⟩ := drop_eq h2 (bi := f) (v := w) (by omega) (by omega)
    obtain ⟨L'', k1, k2, k3, k4⟩ := Next_l_2_eq h hl (i := k) t hf hf2 (L0 := L') (by omega) g3
    refine ⟨(k + 1, L''), ?_, rfl, by simp only; omega, k3, fun a b ha => ?_⟩
    · simp (disch := omega) only [shape_Next_l_rd, hf, Int.toNat_natCast, g1, k1, Bool.cond_decide, if_t, Option.bind_some, inK_i64, cond_true]
    · have e : decide ((a : Int) ∈ (insOf s.All w).take (k + 1)) = (decide ((a : Int) ∈ (insOf s.All w).take k) || decide (a = f)) := by
        simp only [take_nth hj, List.mem_append, List.mem_singleton, hf, Bool.decide_or, Int.ofNat_inj]
      have hs := has_self h w
      simp only [k4, g4, h3 a b ha, e]
      by_cases eb : b = w
      · subst eb; simp only [hs, decide_true]
        cases s.has a b <;> cases decide ((a : Int) ∈ (insOf s.All b).take k) <;> cases decide (a = f) <;> rfl
      · simp only [eb, decide_false]
        cases s.has a b <;> cases decide ((a : Int) ∈ (insOf s.All w).take k) <;> cases decide (a = f) <;> cases s.has (w : Int) (b : Int) <;> rfl
  · rintro ⟨k, L⟩ ⟨h0, h1, h2, h3⟩
    simp only at h0 h1 h2 h3
    subst h0
    refine ⟨L, by simp [shape_Next_l_rd], h1, h2, fun a b ha => ?_⟩
    rw [h3 a b ha, List.take_length]
    have e : decide ((a : Int) ∈ insOf s.All w) = s.has (a : Int) (w : Int) := by simp only [ins_has, Bool.decide_eq_true]
    have hs := has_self h w
    rw [e]
    by_cases eb : b = w
    · subst eb; simp only [hs, decide_true, ne_eq, not_true_eq_false, decide_false]
      cases s.has (a : Int) (b : Int) <;> rfl
    · simp only [eb, decide_false, ne_eq, not_false_eq_true, decide_true]
      cases s.has (a : Int) (b : Int) <;> cases s.has (a : Int) (w : Int) <;> cases s.has (w : Int) (b : Int) <;> rfl

/-- is a pair of numbers in the next shape? -/
def nextP (s : Shape) (w a b : Nat) : Bool := decide (a ≠ w) && decide (b ≠ w) && (s.has (a : Int) (b : Int) || (s.has (a : Int) (w : Int) && s.has (w : Int) (b : Int)))

theorem Next_l_4_eq {n : Nat} {t : Shape} {a : Int} {x : List Int × List Int} {y L : List (Nat → Int)} {i : Nat} {o : List Pair} (hn : n ≤ 480) (hL : L.length = n) (hW : AllW L) (hi : i < n) (ho : o.length ≤ 2000000) :
    shape_Next_l_4 t a x y i L 0 o = some (o ++ rowTo (fun a b => hasF (nth L a) b) i n) := by
  unfold shape_Next_l_4
  have := loop_run (round := fun σ : Nat × List Pair => shape_Next_l_4_rd t a x y i L σ.1 σ.2) (fun j => (j, o ++ rowTo (fun a b => hasF (nth L a) b) i j)) n (r := o ++ rowTo (fun a b => hasF (nth L a) b) i n) (fun j hj => ?_) ?_ (by simp only [FU]; omega)
  · simpa [rowTo] using this
  · have hr := rowTo_len (fun a b => hasF (nth L a) b) i j
    have hq := has_eq hW (bi := i) (v := j) (by omega) (by omega)
    have hlen : (o ++ rowTo (fun a b => hasF (nth L a) b) i j).length = o.length + (rowTo (fun a b => hasF (nth L a) b) i j).length := List.length_append ..
    simp (disch := omega) only [shape_Next_l_4_rd, hq, Bool.cond_decide, if_t, Option.bind_some, inK_i64, cond_true, rowTo_step]
    cases e : hasF (nth L i) j <;> simp [e]
  · simp [shape_Next_l_4_rd, hL]
theorem Next_l_3_eq {n : Nat} {t : Shape} {w : Nat} {x : List Int × List Int} {y L : List (Nat → Int)} (hn : n ≤ 480) (hy : y.length = n) (hL : L.length = n) (hW : AllW L) :
    shape_Next_l_3 t w x y 0 [] L = some (pairsTo n (fun a b => hasF (nth L a) b) n) := by
  unfold shape_Next_l_3
  refine loop_run (round := fun σ : Nat × List Pair × List (Nat → Int) => shape_Next_l_3_rd t w x y σ.1 σ.2.1 σ.2.2) (fun i => (i, pairsTo n (fun a b => hasF (nth L a) b) i, L)) n (fun i hi => ?_) ?_ (by simp only [FU]; omega)
  · have hp := pairsTo_len n (fun a b => hasF (nth L a) b) i
    have hb : i * n ≤ 480 * 480 := Nat.mul_le_mul (by omega) hn
    simp (disch := omega) only [shape_Next_l_3_rd, List.length_set, hy, Next_l_4_eq hn hL hW hi, Bool.cond_decide, if_t, Option.bind_some, inK_i64, cond_true, pairsTo_step]
  · simp [shape_Next_l_3_rd, hy]

/-- what both say -/
def Shape.next (s : Shape) (v : Int) : Shape × Int × Int :=
  if s.right = true then (if s.isMid v = true then (Shape.mk s.Ins s.Mids s.Outs (pairsTo s.n (nextP s v.toNat) s.n), s.cost v, 0) else (Shape.mk 0 0 0 [], 0, 9)) else (Shape.mk 0 0 0 [], 0, 1)
theorem shape_Next_is {s : Shape} (hl : s.All.length ≤ 2000000) (v : Int) : shape_Next s v = some (s.next v) := by
  unfold Shape.next
  cases hr : s.right with
  | false => simp [shape_Next, shape_Right_eq hl, hr]
  | true =>
    cases hm : s.isMid v with
    | false => simp [shape_Next, shape_Right_eq hl, shape_mid_eq hr, hr, hm]
    | true =>
      have hs := right_sized hr
      have hn := n_le hr
      have hv : s.Ins ≤ v ∧ v < s.Ins + s.Mids := by simpa [Shape.isMid] using hm
      obtain ⟨w, rfl⟩ : ∃ w : Nat, v = w := ⟨v.toNat, by omega⟩
      obtain ⟨L0, a1, a2, a3, a4, a5⟩ := rows_eq hr hl
      obtain ⟨L, b1, b2, b3, b4⟩ := Next_l_eq hr hl (w := w) (by omega) s a3 a4 a5
      have hc := shape_Cost_eq hl (w : Int)
      simp only [shape_Cost, shape_Right_eq hl, shape_mid_eq hr, hr, hm, Option.bind_some, Bool.not_true, cond_false, shape_ends_eq hl] at hc
      have hi := insOf_len s.All w
      have ho := outsOf_len s.All w
      have hmul := mul_ok (a := (insOf s.All w).length) (b := (outsOf s.All w).length) (by omega) (by omega)
      rw [hmul] at hc
      simp only [cond_true, Option.some.injEq] at hc
      rw [hc] at hmul
      have hset : AllW (L.set w (fun _ => 0)) := by
        intro i hi
        rw [nth_set (by omega)]
        split
        · exact wf_zero
        · exact b3 i (by simpa using hi)
      have e3 := Next_l_3_eq (t := s) (w := w) (x := (insOf s.All w, outsOf s.All w)) (y := L) (n := s.n) hn.1 b2 (by simpa using b2) hset
      have e4 : pairsTo s.n (fun a b => hasF (nth (L.set w (fun _ => 0)) a) b) s.n = pairsTo s.n (nextP s w) s.n := by
        refine pairsTo_congr (fun a b ha hb => ?_) s.n (Nat.le_refl _)
        rw [nth_set (by omega)]
        by_cases e : a = w
        · rw [if_pos e, has_zero]; simp [nextP, e]
        · rw [if_neg e, b4 a b ha]; simp [nextP, e]
      simp (disch := omega) only [shape_Next, shape_Right_eq hl, shape_mid_eq hr, hr, hm, Option.bind_some, Bool.not_true, cond_false, shape_ends_eq hl, a2, b1, Bool.cond_decide, if_t, Int.toNat_natCast, e3, e4, hmul, cond_true, if_true, hc]
end Go.Ab.M
end

section
/-
  PLAIN LAW: SHAPES (fill, sameness, and the law).
-/
namespace Go.Ab.M
set_option linter.unusedVariables false
set_option linter.unusedSimpArgs false

def pairLt (p q : Pair) : Prop := p.From < q.From ∨ (p.From = q.From ∧ p.To < q.To)
/-- how many pairs are new -/
def Shape.fillN (s : Shape) (w : Nat) : Nat := ((insOf s.All w).map fun x => (outsOf s.All w).countP fun y => !s.has x y).sum
def Shape.fill (s : Shape) (v : Int) : Int := if s.right = true then (if s.isMid v = true then (s.fillN v.toNat : Int) else 0) else 0
theorem next_len {s : Shape} (hl : s.All.length ≤ 2000000) (v : Int) : (s.next v).1.All.length ≤ 2000000 := by
  unfold Shape.next
  cases hr : s.right with
  | false => simp
  | true =>
    cases hm : s.isMid v with
    | false => simp
    | true =>
      have hn := n_le hr
      have hp := pairsTo_len s.n (nextP s v.toNat) s.n
      have hb : s.n * s.n ≤ 480 * 480 := Nat.mul_le_mul hn.1 hn.1
      simp only [if_true]; omega
end Go.Ab.M
end

section
/-
  PLAIN LAW: SORTING OF SHORT LISTS BY INSERTION.
-/
namespace Go.Ab
/-- a loop with a measure -/
theorem loop_mu {S R : Type} {round : S → Option (S ⊕ R)} {Q : R → Prop} (I : S → Prop) (μ : S → Nat) (step : ∀ s, I s → (∃ s', round s = some (.inl s') ∧ I s' ∧ μ s' < μ s) ∨ ∃ r, round s = some (.inr r) ∧ Q r) (s0 : S) (h0 : I s0) (hm : μ s0 < FU) : ∃ r, loopN round FU s0 = some r ∧ Q r := by
  have key : ∀ n s, I s → μ s < n → ∃ r, loopN round n s = some r ∧ Q r := by
    intro n
    induction n with
    | zero => intro s _ h; omega
    | succ n ih =>
      intro s hs hn
      rcases step s hs with ⟨s', h1, h2, h3⟩ | ⟨r, h1, h2⟩
      · obtain ⟨r, h4, h5⟩ := ih s' h2 (by omega)
        exact ⟨r, by simp [loopN, h1, h4], h5⟩
      · exact ⟨r, by simp [loopN, h1], h2⟩
  exact key FU s0 h0 hm
end Go.Ab
namespace Go.Ab.M
set_option linter.unusedVariables false
set_option linter.unusedSimpArgs false

theorem Less_eq (x y : Int) : cmp_Less_int x y = some (decide (x < y)) := by
  simp only [cmp_Less_int, cmp_isNaN_int, Option.bind_some, bne_self_eq_false, cond_false]
/-- sorted up to a place -/
def SortedTo (d : List Int) (i : Nat) : Prop := ∀ p q, p < q → q < i → nth d p ≤ nth d q
theorem swap_nth {d : List Int} {k : Nat} (hk : k < d.length) (h0 : 0 < k) (x : Nat) : nth ((d.set k (nth d (k - 1))).set (k - 1) (nth d k)) x = if x = k - 1 then nth d k else if x = k then nth d (k - 1) else nth d x := by
  rw [nth_set (by rw [List.length_set]; omega), nth_set hk]
theorem swap_perm {d : List Int} {k : Nat} (hk : k < d.length) (h0 : 0 < k) : ((d.set k (nth d (k - 1))).set (k - 1) (nth d k)).Perm d := by
  rw [nth_get hk, nth_get (show k - 1 < d.length by omega)]
  exact List.set_set_perm hk (by omega)
theorem ins_round {b i : Int} {k : Nat} {d : List Int} (hk : k < d.length) (hl : d.length ≤ 1000000) (h0 : 0 < k) :
    slices_insertionSortOrdered_int_l_4_rd 0 b i k d = some (if nth d k < nth d (k - 1) then .inl (((k - 1 : Nat) : Int), (d.set k (nth d (k - 1))).set (k - 1) (nth d k)) else .inr d) := by
  have e1 : ((k : Nat) : Int).toNat = k := Int.toNat_natCast k
  have e2 : (((k : Nat) : Int) - 1).toNat = k - 1 := by omega
  have e3 : ((k : Nat) : Int) - 1 = ((k - 1 : Nat) : Int) := by omega
  simp (disch := omega) only [slices_insertionSortOrdered_int_l_4_rd, e1, e2, Less_eq, Option.bind_some, Bool.cond_decide, if_t, inK_i64, cond_true, List.length_set]
  split
  · rw [e3]
  · rfl
theorem ins_round0 {b i : Int} {d : List Int} : slices_insertionSortOrdered_int_l_4_rd 0 b i ((0 : Nat) : Int) d = some (.inr d) := by
  simp [slices_insertionSortOrdered_int_l_4_rd]
theorem ins_inner {b : Int} {i : Nat} {d0 : List Int} (hi : i < d0.length) (hl : d0.length ≤ 1000000) (hs : SortedTo d0 i) :
    ∃ r, slices_insertionSortOrdered_int_l_4 0 b i i d0 = some r ∧ (r.length = d0.length ∧ r.Perm d0 ∧ SortedTo r (i + 1)) := by
  unfold slices_insertionSortOrdered_int_l_4
  refine loop_mu (fun σ : Int × List Int => ∃ k : Nat, σ.1 = k ∧ k ≤ i ∧ σ.2.length = d0.length ∧ σ.2.Perm d0 ∧ (∀ p q, p < q → q ≤ i → p ≠ k → q ≠ k → nth σ.2 p ≤ nth σ.2 q) ∧ (∀ q, k < q → q ≤ i → nth σ.2 k ≤ nth σ.2 q)) (fun σ => σ.1.toNat) ?_ ((i : Int), d0) ?_ (by simp only [FU]; omega)
  · rintro ⟨j, d⟩ ⟨k, h0, h1, h2, h3, h4, h5⟩
    simp only at h0 h1 h2 h3 h4 h5
    subst h0
    by_cases hk : k = 0
    · subst hk
      refine .inr ⟨d, ins_round0, h2, h3, fun p q hpq hq => ?_⟩
      by_cases hp : p = 0
      · subst hp; exact h5 q (by omega) (by omega)
      · exact h4 p q hpq (by omega) hp (by omega)
    · have hr := ins_round (b := b) (i := (i : Int)) (k := k) (d := d) (by omega) (by omega) (by omega)
      by_cases hlt : nth d k < nth d (k - 1)
      · rw [if_pos hlt] at hr
        refine .inl ⟨_, hr, ⟨k - 1, rfl, by omega, ?_, (swap_perm (by omega) (by omega)).trans h3, ?_, ?_⟩, ?_⟩
        · simp only [List.length_set]; exact h2
        · intro p q hpq hq hp1 hq1
          simp only [swap_nth (show k < d.length by omega) (show 0 < k by omega)]
          rw [if_neg hp1, if_neg hq1]
          by_cases hp : p = k
          · rw [if_pos hp, if_neg (by omega)]; exact h4 (k - 1) q (by omega) hq (by omega) (by omega)
          · rw [if_neg hp]
            by_cases hq2 : q = k
            · rw [if_pos hq2]; exact h4 p (k - 1) (by omega) (by omega) hp (by omega)
            · rw [if_neg hq2]; exact h4 p q hpq hq hp hq2
        · intro q hq1 hq2
          simp only [swap_nth (show k < d.length by omega) (show 0 < k by omega)]
          rw [if_pos trivial, if_neg (by omega)]
          by_cases hq : q = k
          · rw [if_pos hq]; omega
          · rw [if_neg hq]; exact h5 q (by omega) hq2
        · simp only; omega
      · rw [if_neg hlt] at hr
        refine .inr ⟨d, hr, h2, h3, fun p q hpq hq => ?_⟩
        by_cases hp : p = k
        · subst hp; exact h5 q (by omega) (by omega)
        · by_cases hq2 : q = k
          · by_cases hp2 : p = k - 1
            · rw [hp2, hq2]; omega
            · have := h4 p (k - 1) (by omega) (by omega) hp (by omega)
              rw [hq2]; omega
          · exact h4 p q hpq (by omega) hp hq2
  · exact ⟨i, rfl, Nat.le_refl _, rfl, .refl _, fun p q hpq hq _ hq2 => hs p q hpq (by omega), fun q h1 h2 => by omega⟩
theorem ins_outer {d0 : List Int} (h0 : 0 < d0.length) (hl : d0.length ≤ 1000000) :
    ∃ r, slices_insertionSortOrdered_int_l_3 0 (d0.length : Nat) 1 d0 = some r ∧ (r.length = d0.length ∧ r.Perm d0 ∧ SortedTo r d0.length) := by
  unfold slices_insertionSortOrdered_int_l_3
  refine loop_inv (fun t (σ : Int × List Int) => σ.1 = ((t + 1 : Nat) : Int) ∧ σ.2.length = d0.length ∧ σ.2.Perm d0 ∧ SortedTo σ.2 (t + 1)) (d0.length - 1) (1, d0) ⟨rfl, rfl, .refl _, fun p q hpq hq => by omega⟩ ?_ ?_ (by simp only [FU]; omega)
  · rintro t ⟨j, d⟩ ht ⟨e, h1, h2, h3⟩
    simp only at e h1 h2 h3
    subst e
    obtain ⟨r, g1, g2, g3, g4⟩ := ins_inner (b := ((d0.length : Nat) : Int)) (i := t + 1) (d0 := d) (by omega) (by omega) h3
    refine ⟨(((t + 1 + 1 : Nat) : Int), r), ?_, rfl, by simp only; omega, g3.trans h2, g4⟩
    simp (disch := omega) only [slices_insertionSortOrdered_int_l_3_rd, g1, Option.bind_some, Bool.cond_decide, if_t, inK_i64, cond_true]
    rfl
  · rintro ⟨j, d⟩ ⟨e, h1, h2, h3⟩
    simp only at e h1 h2 h3
    subst e
    refine ⟨d, ?_, h1, h2, ?_⟩
    · simp (disch := omega) only [slices_insertionSortOrdered_int_l_3_rd, Bool.cond_decide, if_f]
    · rw [show d0.length - 1 + 1 = d0.length by omega] at h3; exact h3
theorem Len_some : ∀ n : Nat, n < 13 → ∃ r, math_bits_Len (IntKind.wrap .u64 (n : Int)) = some r := by
  intro n hn
  rcases n with _ | _ | _ | _ | _ | _ | _ | _ | _ | _ | _ | _ | _ | n
  all_goals first | omega | exact Option.isSome_iff_exists.1 (by kernel_rfl)
theorem Sort_eq {o : List Int} (h0 : 0 < o.length) (hl : o.length ≤ 12) : ∃ r, slices_Sort_int_int_2 o = some r ∧ (r.length = o.length ∧ r.Perm o ∧ SortedTo r o.length) := by
  obtain ⟨x, hx⟩ := Len_some o.length (by omega)
  obtain ⟨r, h1, h2⟩ := ins_outer h0 (by omega)
  refine ⟨r, ?_, h2⟩
  have e : slices_pdqsortOrdered_int_l_2_rd o 0 ((o.length : Nat) : Int) x = some (.inr r) := by
    simp (disch := omega) only [slices_pdqsortOrdered_int_l_2_rd, slices_insertionSortOrdered_int_2, Int.sub_zero, Int.zero_add, h1, Option.bind_some, Bool.cond_decide, if_t, inK_i64, cond_true]
  have e2 : slices_pdqsortOrdered_int_l_2 o 0 ((o.length : Nat) : Int) x = some r := by
    unfold slices_pdqsortOrdered_int_l_2
    exact loop_run (round := fun (σ : Unit) => slices_pdqsortOrdered_int_l_2_rd o 0 ((o.length : Nat) : Int) x) (fun _ => ()) 0 (fun i hi => by omega) e (by simp only [FU]; omega)
  simp only [slices_Sort_int_int_2, slices_pdqsortOrdered_int_2, hx, e2, Option.bind_some]
end Go.Ab.M
end

section
/-
  PLAIN LAW: SHAPES (orders).
-/
namespace Go.Ab
theorem loop_allg {S R : Type} {round : S → Option (S ⊕ R)} (g : Nat → S) (p : Nat → Bool) (n : Nat) (good bad : R) (h1 : ∀ i, i < n → p i = true → round (g i) = some (.inl (g (i + 1)))) (h2 : ∀ i, i < n → p i = false → round (g i) = some (.inr bad)) (h3 : round (g n) = some (.inr good)) (hn : n < FU) :
    loopN round FU (g 0) = some (if (List.range n).all p = true then good else bad) := by
  by_cases h : (List.range n).all p = true
  · rw [if_pos h]
    exact loop_run g n (fun i hi => h1 i hi (List.all_eq_true.1 h i (by simpa using hi))) h3 hn
  · rw [if_neg h]
    obtain ⟨j, g1, g2, g3⟩ := all_find n h
    exact loop_run g j (fun i hi => h1 i (by omega) (g3 i hi)) (h2 j g1 g2) (by omega)
end Go.Ab
namespace Go.Ab.M
set_option linter.unusedVariables false
set_option linter.unusedSimpArgs false

/-- so many numbers from one on -/
def rowOf (f : Int) (m : Nat) : List Int := (List.range m).map fun i : Nat => f + (i : Int)
theorem rowOf_len (f : Int) (m : Nat) : (rowOf f m).length = m := by simp [rowOf]
theorem rowOf_nth {f : Int} {m i : Nat} (h : i < m) : nth (rowOf f m) i = f + (i : Int) := by rw [nth_get (by rw [rowOf_len]; exact h)]; simp [rowOf]
theorem rowOf_mem {f a : Int} {m : Nat} : a ∈ rowOf f m ↔ f ≤ a ∧ a < f + (m : Int) := by
  simp only [rowOf, List.mem_map, List.mem_range]
  constructor
  · rintro ⟨i, h, rfl⟩; omega
  · intro h; exact ⟨(a - f).toNat, by omega, by omega⟩
theorem rowOf_lt (f : Int) (m : Nat) : (rowOf f m).Pairwise (· < ·) := by
  unfold rowOf
  rw [List.pairwise_map]
  exact List.pairwise_lt_range.imp fun {a b} h => by omega
theorem rowOf_nodup (f : Int) (m : Nat) : (rowOf f m).Nodup := by
  rw [List.nodup_iff_pairwise_ne]
  exact (rowOf_lt f m).imp fun {a b} h => by omega
theorem list_eq {a b : List Int} (hl : a.length = b.length) (h : ∀ i, i < a.length → nth a i = nth b i) : a = b := by
  apply List.ext_getElem hl
  intro i h1 h2
  have := h i h1
  rwa [nth_get h1, nth_get h2] at this
theorem sorted_eq {r : List Int} {f : Int} {m : Nat} (hs : SortedTo r r.length) (hp : r.Perm (rowOf f m)) : r = rowOf f m := by
  refine hp.eq_of_pairwise (le := fun a b => a ≤ b) (fun a b _ _ h1 h2 => by omega) ?_ ?_
  · rw [List.pairwise_iff_getElem]
    intro i j hi hj hij
    have := hs i j hij hj
    rwa [nth_get hi, nth_get hj] at this
  · exact (rowOf_lt f m).imp fun {a b} h => by omega
/-- is each there just once? -/
def eachB (f : Int) (m : Nat) (o : List Int) : Bool := decide (o.Perm (rowOf f m))

theorem each_eq {s : Shape} (hs : 1 ≤ s.Ins ∧ s.Ins ≤ 40 ∧ 0 ≤ s.Mids ∧ s.Mids ≤ 400) {o : List Int} (ho : o.length ≤ 12) : shape_each_2_s s o = some (eachB s.Ins s.Mids.toNat o) := by
  cases o with
  | nil =>
    have h1 : slices_Sort_int_int = some () := by kernel_rfl
    have h2 : shape_each_l s 0 = some (.inr ()) := by
      unfold shape_each_l
      exact loop_run (round := fun σ : Nat => shape_each_l_rd s σ) (fun i => i) 0 (fun i hi => by omega) (by simp [shape_each_l_rd]) (by decide)
    have h3 : shape_each s = some (((([] : List Int).length : Nat) : Int) == s.Mids) := by
      unfold shape_each slices_Clone_int_int_e
      rw [h1, h2]
      rfl
    unfold shape_each_2_s
    rw [List.isEmpty_nil, cond_true, h3]
    refine congrArg some ?_
    rw [Bool.eq_iff_iff]
    unfold eachB
    simp only [beq_iff_eq, decide_eq_true_eq, List.length_nil, List.nil_perm]
    constructor
    · intro h; rw [← h]; rfl
    · intro h
      have := congrArg List.length h
      rw [rowOf_len] at this
      simp at this
      omega
  | cons a t =>
    obtain ⟨r, g1, g2, g3, g4⟩ := Sort_eq (o := a :: t) (by simp) ho
    have hc : slices_Clone_int_int_2 (a :: t) = some (a :: t) := by
      have h1 : decide (0 < (a :: t).length) = true := by simp
      have h2 : decide (0 + (a :: t).length ≤ 2147483648) = true := by simp only [decide_eq_true_eq]; omega
      simp only [slices_Clone_int_int_2, h1, h2, cond_true, List.nil_append]
    have hloop : shape_each_l_2 s r 0 = some (if (List.range r.length).all (fun i => nth r i == s.Ins + (i : Int)) = true then .inr () else .inl ()) := by
      unfold shape_each_l_2
      refine loop_all (round := fun σ : Nat => shape_each_l_2_rd s r σ) (fun i => nth r i == s.Ins + (i : Int)) r.length _ _ (fun i hi hp => ?_) (fun i hi hp => ?_) ?_ (by simp only [FU]; omega)
      · have hp2 : (nth r i != s.Ins + (i : Int)) = false := by simp only [bne, hp, Bool.not_true]
        simp (disch := omega) only [shape_each_l_2_rd, hp2, Bool.cond_decide, if_t, inK_i64, cond_true, cond_false]
      · have hp2 : (nth r i != s.Ins + (i : Int)) = true := by simp only [bne, hp, Bool.not_false]
        simp (disch := omega) only [shape_each_l_2_rd, hp2, Bool.cond_decide, if_t, inK_i64, cond_true]
      · simp [shape_each_l_2_rd]
    have hiff : ((List.range r.length).all (fun i => nth r i == s.Ins + (i : Int)) && (((r.length : Nat) : Int) == s.Mids)) = eachB s.Ins s.Mids.toNat (a :: t) := by
      rw [Bool.eq_iff_iff]
      simp only [eachB, decide_eq_true_eq, List.all_eq_true, List.mem_range, beq_iff_eq, Bool.and_eq_true]
      constructor
      · rintro ⟨h1, h2⟩
        have : r = rowOf s.Ins s.Mids.toNat := list_eq (by rw [rowOf_len]; omega) fun i hi => by rw [h1 i hi, rowOf_nth (by omega)]
        rw [← this]
        exact g3.symm
      · intro hp
        have := sorted_eq (by rw [g2]; exact g4) (g3.trans hp)
        have hlen := congrArg List.length this
        rw [rowOf_len] at hlen
        refine ⟨fun i hi => ?_, by omega⟩
        rw [this, rowOf_nth (by omega)]
    simp only [shape_each_2_s, List.isEmpty_cons, cond_false, shape_each_2, hc, g1, hloop, Option.bind_some]
    rw [← hiff]
    by_cases h : (List.range r.length).all (fun i => nth r i == s.Ins + (i : Int)) = true
    · rw [if_pos h, h, caseS_inr, Bool.true_and]
    · rw [if_neg h, caseS_inl]
      rw [Bool.not_eq_true] at h
      rw [h, Bool.false_and]
end Go.Ab.M
end

section
/-
  PLAIN LAW: SHAPES (all mids gone in an order; the law).
-/
namespace Go.Ab.M
set_option linter.unusedVariables false
set_option linter.unusedSimpArgs false

theorem next_cost {s : Shape} (hl : s.All.length ≤ 2000000) (v : Int) : 0 ≤ (s.next v).2.1 ∧ (s.next v).2.1 ≤ 4000000000000 := by
  unfold Shape.next
  cases hr : s.right with
  | false => simp
  | true =>
    cases hm : s.isMid v with
    | false => simp
    | true =>
      simp only [if_true]
      unfold Shape.cost
      rw [if_pos ⟨hr, hm⟩]
      have hi := insOf_len s.All v
      have ho := outsOf_len s.All v
      have h : (insOf s.All v).length * (outsOf s.All v).length ≤ 2000000 * 2000000 := Nat.mul_le_mul (by omega) (by omega)
      rw [← Int.natCast_mul]
      omega
/-- what is left, and what it cost, step by step -/
def stepsOf (s : Shape) (o : List Int) : Nat → Int × Shape
  | 0 => (0, s)
  | i + 1 => ((stepsOf s o i).1 + ((stepsOf s o i).2.next (nth o i)).2.1, ((stepsOf s o i).2.next (nth o i)).1)
theorem steps_le {s : Shape} (hl : s.All.length ≤ 2000000) (o : List Int) : ∀ i : Nat, (stepsOf s o i).2.All.length ≤ 2000000 ∧ 0 ≤ (stepsOf s o i).1 ∧ (stepsOf s o i).1 ≤ (i : Int) * 4000000000000
  | 0 => ⟨hl, Int.le_refl _, by simp [stepsOf]⟩
  | i + 1 => by
    obtain ⟨h1, h2, h3⟩ := steps_le hl o i
    have h4 := next_cost h1 (nth o i)
    refine ⟨next_len h1 _, ?_, ?_⟩
    · simp only [stepsOf]; omega
    · simp only [stepsOf]; omega
theorem All_rd {o : List Int} {sum : Int} {i : Nat} {c : Shape} (hl : c.All.length ≤ 2000000) (hi : i < o.length) (ho : o.length ≤ 12) (h1 : 0 ≤ sum) (h2 : sum ≤ 50000000000000) :
    shape_All_l_rd o sum i c.Ins c.Mids c.Outs c.All = some (.inl (sum + (c.next (nth o i)).2.1, i + 1, (c.next (nth o i)).1.Ins, (c.next (nth o i)).1.Mids, (c.next (nth o i)).1.Outs, (c.next (nth o i)).1.All)) := by
  have e : shape_Next (Shape.mk c.Ins c.Mids c.Outs c.All) (nth o i) = some (c.next (nth o i)) := shape_Next_is hl _
  have hc := next_cost hl (nth o i)
  simp (disch := omega) only [shape_All_l_rd, e, Option.bind_some, Bool.cond_decide, if_t, inK_i64, cond_true]
theorem All_l {s : Shape} (hl : s.All.length ≤ 2000000) {o : List Int} (ho : o.length ≤ 12) : shape_All_l o 0 0 s.Ins s.Mids s.Outs s.All = some (stepsOf s o o.length).1 := by
  unfold shape_All_l
  refine loop_run (round := fun σ : Int × Nat × Int × Int × Int × List Pair => shape_All_l_rd o σ.1 σ.2.1 σ.2.2.1 σ.2.2.2.1 σ.2.2.2.2.1 σ.2.2.2.2.2) (fun i => ((stepsOf s o i).1, i, (stepsOf s o i).2.Ins, (stepsOf s o i).2.Mids, (stepsOf s o i).2.Outs, (stepsOf s o i).2.All)) o.length (fun i hi => ?_) ?_ (by simp only [FU]; omega)
  · obtain ⟨h1, h2, h3⟩ := steps_le hl o i
    exact All_rd h1 hi ho h2 (by omega)
  · simp only [shape_All_l_rd, Int.lt_irrefl, decide_false, cond_false]
/-- what both say of an order -/
def Shape.all (s : Shape) (o : List Int) : Int × Int := if s.right = true then (if eachB s.Ins s.Mids.toNat o = true then ((stepsOf s o o.length).1, 0) else (0, 9)) else (0, 1)
theorem shape_All_eq {s : Shape} (hl : s.All.length ≤ 2000000) {o : List Int} (ho : o.length ≤ 12) : shape_All s o = some (s.all o) := by
  unfold Shape.all
  cases hr : s.right with
  | false => simp [shape_All, shape_Right_eq hl, hr]
  | true =>
    have hs := right_sized hr
    have he := each_eq (s := s) ⟨by omega, by omega, by omega, by omega⟩ (o := o) (by omega)
    cases hb : eachB s.Ins s.Mids.toNat o with
    | false => rw [hb] at he; simp [shape_All, shape_Right_eq hl, hr, he]
    | true => rw [hb] at he; simp [shape_All, shape_Right_eq hl, hr, he, All_l hl ho]
end Go.Ab.M
end

section
/-
  PLAIN LAW: ORDERS (what is left is right; the least one; what greedy is).
-/
namespace Go.Ab.M
set_option linter.unusedVariables false
set_option linter.unusedSimpArgs false

theorem right_of {s : Shape} (hz : s.sized = true) (hb : ∀ p ∈ s.All, 0 ≤ p.From ∧ p.From < s.Ins + s.Mids ∧ s.Ins ≤ p.To ∧ p.To < s.Ins + s.Mids + s.Outs ∧ p.From < p.To) (hs : s.All.Pairwise pairLt) : s.right = true := by
  simp only [Shape.right, hz, Bool.true_and]
  rw [List.all_eq_true]
  intro i hi
  have hi : i < s.All.length := by simpa using hi
  have h1 := hb _ (nth_mem hi)
  simp only [Shape.fits, Bool.and_eq_true, Bool.or_eq_true, decide_eq_true_eq]
  refine ⟨⟨⟨⟨⟨h1.1, h1.2.1⟩, h1.2.2.1⟩, h1.2.2.2.1⟩, h1.2.2.2.2⟩, ?_⟩
  rcases Nat.eq_zero_or_pos i with e | e
  · exact .inl (.inl e)
  · have := (List.pairwise_iff_getElem.1 hs) (i - 1) i (by omega) hi (by omega)
    rw [← nth_get, ← nth_get] at this
    rcases this with h | h
    · exact .inl (.inr h)
    · exact .inr h
theorem rowTo_sorted (P : Nat → Nat → Bool) (a j : Nat) : (rowTo P a j).Pairwise pairLt := by
  unfold rowTo
  rw [List.pairwise_map, List.pairwise_filter]
  refine List.pairwise_lt_range.imp fun {x y} h _ _ => ?_
  exact .inr ⟨rfl, Int.ofNat_lt.2 h⟩
theorem pairsTo_sorted (n : Nat) (P : Nat → Nat → Bool) : ∀ i, (pairsTo n P i).Pairwise pairLt
  | 0 => by simp [pairsTo]
  | i + 1 => by
    rw [pairsTo_step, List.pairwise_append]
    refine ⟨pairsTo_sorted n P i, rowTo_sorted P i n, fun p hp q hq => ?_⟩
    obtain ⟨a, b, ha, hb, _, rfl⟩ := mem_pairsTo.1 hp
    simp only [rowTo, List.mem_map] at hq
    obtain ⟨c, _, rfl⟩ := hq
    unfold pairLt; simp only; omega
theorem next_eq {s : Shape} (h : s.right = true) {v : Int} (hm : s.isMid v = true) : s.next v = (Shape.mk s.Ins s.Mids s.Outs (pairsTo s.n (nextP s v.toNat) s.n), s.cost v, 0) := by
  simp only [Shape.next, h, hm, if_true]
theorem next_right {s : Shape} (h : s.right = true) {v : Int} (hm : s.isMid v = true) : (s.next v).1.right = true := by
  rw [next_eq h hm]
  refine right_of ?_ (fun p hp => ?_) (pairsTo_sorted _ _ _)
  · simp only [Shape.right, Bool.and_eq_true] at h
    exact h.1
  · obtain ⟨a, b, ha, hb, hP, rfl⟩ := mem_pairsTo.1 hp
    simp only [nextP, Bool.and_eq_true, Bool.or_eq_true, Shape.has, decide_eq_true_eq] at hP
    rcases hP.2 with h1 | ⟨h1, h2⟩
    · exact right_pair h h1
    · have := right_pair h h1
      have := right_pair h h2
      simp only at *
      omega
theorem next_n {s : Shape} (h : s.right = true) {v : Int} (hm : s.isMid v = true) : (s.next v).1.n = s.n ∧ (s.next v).1.Ins = s.Ins ∧ (s.next v).1.Mids = s.Mids ∧ (s.next v).1.Outs = s.Outs ∧ (s.next v).1.All.length ≤ s.n * s.n := by
  rw [next_eq h hm]
  exact ⟨rfl, rfl, rfl, rfl, pairsTo_len _ _ _⟩

/-! ### the first least one -/
/-- where the first least one of the first k stands, and what it is -/
def amin (f : Int → Int) (m : List Int) : Nat → Nat × Int
  | 0 => (0, f (nth m 0))
  | k + 1 => if f (nth m k) < (amin f m k).2 then (k, f (nth m k)) else amin f m k
theorem amin_spec (f : Int → Int) (m : List Int) (h0 : 0 < m.length) : ∀ k, k ≤ m.length → (amin f m k).1 < m.length ∧ (amin f m k).2 = f (nth m (amin f m k).1) ∧ (∀ j, j < k → (amin f m k).2 ≤ f (nth m j)) ∧ (∀ j, j < (amin f m k).1 → (amin f m k).2 < f (nth m j)) ∧ ((amin f m k).1 < k ∨ (amin f m k).1 = 0)
  | 0, _ => ⟨h0, rfl, fun j hj => by omega, fun j hj => by simp [amin] at hj, .inr rfl⟩
  | k + 1, hk => by
    obtain ⟨h1, h2, h3, h4, h5⟩ := amin_spec f m h0 k (by omega)
    simp only [amin]
    split
    · rename_i hlt
      refine ⟨by simp only; omega, rfl, fun j hj => ?_, fun j hj => ?_, .inl (by simp only; omega)⟩
      · simp only
        by_cases e : j = k
        · subst e; exact Int.le_refl _
        · have := h3 j (by omega); omega
      · simp only at hj ⊢
        have := h3 j hj; omega
    · rename_i hlt
      refine ⟨h1, h2, fun j hj => ?_, h4, by omega⟩
      by_cases e : j = k
      · subst e; omega
      · exact h3 j (by omega)
def atMin (f : Int → Int) (m : List Int) : Nat := (amin f m m.length).1
theorem atMin_lt {f : Int → Int} {m : List Int} (h : 0 < m.length) : atMin f m < m.length := (amin_spec f m h m.length (Nat.le_refl _)).1
/-- what a vertex is told as -/
def Shape.tell (fill : Bool) (s : Shape) (v : Int) : Int := if fill = true then s.fill v else s.cost v
/-- the mids, each the least one -/
def greedyP (fill : Bool) : Nat → Shape → List Int → List Int
  | 0, _, _ => []
  | n + 1, s, m => nth m (atMin (s.tell fill) m) :: greedyP fill n (s.next (nth m (atMin (s.tell fill) m))).1 (m.eraseIdx (atMin (s.tell fill) m))

theorem cutL_take (l : List Int) (ln i : Nat) (hi : i < ln) (hl : ln ≤ l.length) : (cutL l ln i (i + 1)).take (ln - 1) = (l.take ln).eraseIdx i := by
  apply List.ext_getElem?
  intro t
  rw [List.getElem?_take, cutL_get _ _ _ _ (by omega) (by omega) hl, List.getElem?_eraseIdx, List.getElem?_take, List.getElem?_take]
  by_cases h1 : t < i
  · rw [if_pos (by omega), if_pos h1, if_pos h1, if_pos (by omega)]
  · by_cases h2 : t < ln - 1
    · rw [if_pos h2, if_neg h1, if_neg h1, if_pos (by omega), if_pos (by omega)]
      congr 1; omega
    · rw [if_neg h2, if_neg h1, if_neg (by omega)]
theorem nth_take {l : List Int} {n i : Nat} (h : i < n) : nth (l.take n) i = nth l i := by
  simp only [nth, List.getD, List.getElem?_take, if_pos h]
end Go.Ab.M
end

section
/-
  PLAIN LAW: ORDERS (the program's greedy).
-/
namespace Go.Ab.M
set_option linter.unusedVariables false
set_option linter.unusedSimpArgs false

theorem cost_e {s : Shape} (hl : s.All.length ≤ 1000) (ln : Nat) (row : List Int) (v : Int) : order_left_cost s.Ins s.Mids s.Outs s.All ln row v = some (s.tell false v) := by
  have h : shape_Cost (Shape.mk s.Ins s.Mids s.Outs s.All) v = some (s.cost v) := shape_Cost_eq (s := s) (by omega) v
  simp only [order_left_cost, h, Option.bind_some, Shape.tell, if_true, Bool.false_eq_true, if_false]
theorem least_rd {s : Shape} (hl : s.All.length ≤ 1000) {ln : Nat} {row : List Int} (h2 : ln ≤ row.length) (h3 : ln ≤ 1000) {k : Nat} (hk : k < ln) :
    order_left_least_l_rd s.Ins s.Mids s.Outs s.All ln row (amin (s.tell false) (row.take ln) k).1 (amin (s.tell false) (row.take ln) k).2 k = some (.inl ((amin (s.tell false) (row.take ln) (k + 1)).1, (amin (s.tell false) (row.take ln) (k + 1)).2, k + 1)) := by
  have e : nth (row.take ln) k = nth row k := nth_take hk
  by_cases hx : s.tell false (nth row k) < (amin (s.tell false) (row.take ln) k).2
  · simp (disch := omega) only [order_left_least_l_rd, cost_e hl, Bool.cond_decide, if_t, Option.bind_some, inK_i64, cond_true, amin, e, if_pos hx]
  · simp (disch := omega) only [order_left_least_l_rd, cost_e hl, Bool.cond_decide, if_t, Option.bind_some, inK_i64, cond_true, amin, e, if_neg hx]
theorem least_l {s : Shape} (hl : s.All.length ≤ 1000) {ln : Nat} {row : List Int} (h1 : 0 < ln) (h2 : ln ≤ row.length) (h3 : ln ≤ 1000) :
    order_left_least_l s.Ins s.Mids s.Outs s.All ln row 0 (s.tell false (nth row 0)) 0 = some (atMin (s.tell false) (row.take ln)) := by
  have e : nth (row.take ln) 0 = nth row 0 := nth_take h1
  have hm : (row.take ln).length = ln := by rw [List.length_take]; omega
  unfold order_left_least_l atMin
  rw [hm, ← e]
  refine loop_run (round := fun σ : Nat × Int × Nat => order_left_least_l_rd s.Ins s.Mids s.Outs s.All ln row σ.1 σ.2.1 σ.2.2) (fun k => ((amin (s.tell false) (row.take ln) k).1, (amin (s.tell false) (row.take ln) k).2, k)) ln (fun k hk => least_rd hl h2 h3 hk) ?_ (by simp only [FU]; omega)
  simp only [order_left_least_l_rd, Int.lt_irrefl, decide_false, cond_false]
theorem least_eq {s : Shape} (hl : s.All.length ≤ 1000) {ln : Nat} {row : List Int} (h1 : 0 < ln) (h2 : ln ≤ row.length) (h3 : ln ≤ 1000) :
    order_left_least s.Ins s.Mids s.Outs s.All ln row = some (nth (row.take ln) (atMin (s.tell false) (row.take ln)), (s.next (nth (row.take ln) (atMin (s.tell false) (row.take ln)))).1, ln - 1, cutL row ln (atMin (s.tell false) (row.take ln)) (atMin (s.tell false) (row.take ln) + 1)) := by
  have hm : (row.take ln).length = ln := by rw [List.length_take]; omega
  have hat := atMin_lt (f := s.tell false) (m := row.take ln) (by omega)
  have e := least_l hl h1 h2 h3
  rw [hm] at hat
  generalize atMin (s.tell false) (row.take ln) = at' at *
  have hn : shape_Next (Shape.mk s.Ins s.Mids s.Outs s.All) (nth row at') = some (s.next (nth row at')) := shape_Next_is (s := s) (by omega) _
  have e2 : nth (row.take ln) at' = nth row at' := nth_take hat
  have hd : slices_Delete_int_int row ln (at' : Int) ((at' : Int) + 1) = some (ln - 1, cutL row ln at' (at' + 1)) := by
    have c : (decide (0 ≤ (at' : Int)) && (decide ((at' : Int) < (at' : Int) + 1) && (decide ((at' : Int) + 1 ≤ (ln : Int)) && decide (ln ≤ row.length)))) = true := by
      simp only [Bool.and_eq_true, decide_eq_true_eq]; omega
    have t1 : ((at' : Int)).toNat = at' := by omega
    have t2 : ((at' : Int) + 1).toNat = at' + 1 := by omega
    simp only [slices_Delete_int_int, c, cond_true, t1, t2]
    rw [show at' + 1 - at' = 1 by omega]
  simp (disch := omega) only [order_left_least, cost_e hl, e, hd, hn, e2, Bool.cond_decide, if_t, Option.bind_some, inK_i64, cond_true]
theorem greedy_rd {s : Shape} (hl : s.All.length ≤ 1000) {ln : Nat} {row out : List Int} (h1 : 0 < ln) (h2 : ln ≤ row.length) (h3 : ln ≤ 1000) (ho : out.length ≤ 1000) :
    order_greedy_l_2_rd out s.Ins s.Mids s.Outs s.All ln row = some (.inl (out ++ [nth (row.take ln) (atMin (s.tell false) (row.take ln))], (s.next (nth (row.take ln) (atMin (s.tell false) (row.take ln)))).1.Ins, (s.next (nth (row.take ln) (atMin (s.tell false) (row.take ln)))).1.Mids, (s.next (nth (row.take ln) (atMin (s.tell false) (row.take ln)))).1.Outs, (s.next (nth (row.take ln) (atMin (s.tell false) (row.take ln)))).1.All, ln - 1, cutL row ln (atMin (s.tell false) (row.take ln)) (atMin (s.tell false) (row.take ln) + 1))) := by
  simp (disch := omega) only [order_greedy_l_2_rd, least_eq hl h1 h2 h3, Bool.cond_decide, if_t, Option.bind_some]
theorem greedy_loop : ∀ (k fuel : Nat) (s : Shape) (ln : Nat) (row out : List Int), ln = k → k < fuel → s.right = true → (∀ v ∈ row.take ln, s.isMid v = true) → s.All.length ≤ 1000 → s.n * s.n ≤ 1000 → ln ≤ row.length → ln + out.length ≤ 1000 →
    loopN (fun (σ : List Int × Int × Int × Int × List Pair × Nat × List Int) => order_greedy_l_2_rd σ.1 σ.2.1 σ.2.2.1 σ.2.2.2.1 σ.2.2.2.2.1 σ.2.2.2.2.2.1 σ.2.2.2.2.2.2) fuel (out, s.Ins, s.Mids, s.Outs, s.All, ln, row) = some (out ++ greedyP false k s (row.take ln))
  | _, 0, _, _, _, _, _, h, _, _, _, _, _, _ => by omega
  | 0, fuel + 1, s, ln, row, out, e, _, _, _, _, _, _, _ => by
    subst e
    have : order_greedy_l_2_rd out s.Ins s.Mids s.Outs s.All 0 row = some (.inr out) := by
      rfl
    simp only [loopN, this, Option.bind_some, caseS_inr, greedyP, List.append_nil]
  | k + 1, fuel + 1, s, ln, row, out, e, hf, hr, hm, hl, hn, h2, h3 => by
    have hlen : (row.take ln).length = ln := by rw [List.length_take]; omega
    have hat := atMin_lt (f := s.tell false) (m := row.take ln) (by omega)
    have hmid := hm _ (nth_mem hat)
    have hrd := greedy_rd (s := s) hl (ln := ln) (row := row) (out := out) (by omega) h2 (by omega) (by omega)
    rw [hlen] at hat
    have hct := cutL_take row ln (atMin (s.tell false) (row.take ln)) hat h2
    have hcl := cutL_length row ln (atMin (s.tell false) (row.take ln)) (atMin (s.tell false) (row.take ln) + 1) (by omega) (by omega) h2
    simp only [greedyP]
    generalize atMin (s.tell false) (row.take ln) = at' at *
    generalize nth (row.take ln) at' = v at *
    obtain ⟨n1, n2, n3, n4, n5⟩ := next_n hr hmid
    have ih := greedy_loop k fuel (s.next v).1 (ln - 1) (cutL row ln at' (at' + 1)) (out ++ [v]) (by omega) (by omega) (next_right hr hmid) (fun u hu => by
      rw [hct] at hu
      have := hm u (List.mem_of_mem_eraseIdx hu)
      simpa only [Shape.isMid, n2, n3] using this) (by omega) (by rw [n1]; exact hn) (by omega) (by rw [List.length_append, List.length_singleton]; omega)
    rw [hct] at ih
    simp only [loopN, hrd, Option.bind_some, caseS_inl, ih, List.append_assoc, List.singleton_append]

end Go.Ab.M
end

section
/-
  PLAIN LAW: ORDERS (the document's greedy).
-/
namespace Go.Ab.M
set_option linter.unusedVariables false
set_option linter.unusedSimpArgs false

end Go.Ab.M
end

section
/-
  PLAIN LAW: ORDERS (rising, falling, by a rule; the law).
-/
namespace Go.Ab.M
set_option linter.unusedVariables false
set_option linter.unusedSimpArgs false

theorem rowOf_succ (f : Int) (m : Nat) : rowOf f (m + 1) = rowOf f m ++ [f + (m : Int)] := by simp [rowOf, List.range_succ]
theorem all_l {s : Shape} (hs : s.sized = true) : order_all_l s [] 0 = some (rowOf s.Ins s.Mids.toNat) ∧ order_all_l_2 s [] 0 = some (rowOf s.Ins s.Mids.toNat) := by
  have hz := sized_iff.1 hs
  have e : ¬ (((s.Mids.toNat : Nat) : Int) < s.Mids) := by omega
  constructor
  · unfold order_all_l
    refine loop_run (round := fun σ : List Int × Nat => order_all_l_rd s σ.1 σ.2) (fun k => (rowOf s.Ins k, k)) s.Mids.toNat (fun i hi => ?_) ?_ (by simp only [FU]; omega)
    · have hr := rowOf_len s.Ins i
      simp (disch := omega) only [order_all_l_rd, Bool.cond_decide, if_t, inK_i64, cond_true, rowOf_succ]
    · simp only [order_all_l_rd, Bool.cond_decide, if_neg e]
  · unfold order_all_l_2
    refine loop_run (round := fun σ : List Int × Nat => order_all_l_2_rd s σ.1 σ.2) (fun k => (rowOf s.Ins k, k)) s.Mids.toNat (fun i hi => ?_) ?_ (by simp only [FU]; omega)
    · have hr := rowOf_len s.Ins i
      simp (disch := omega) only [order_all_l_2_rd, Bool.cond_decide, if_t, inK_i64, cond_true, rowOf_succ]
    · simp only [order_all_l_2_rd, Bool.cond_decide, if_neg e]
/-- all mids, rising -/
def Shape.mids (s : Shape) : List Int := rowOf s.Ins s.Mids.toNat
theorem right_sz {s : Shape} (h : s.right = true) : s.sized = true := by simp only [Shape.right, Bool.and_eq_true] at h; exact h.1
theorem mids_len {s : Shape} (h : s.right = true) : s.mids.length ≤ 400 ∧ (s.mids.length : Int) = s.Mids := by
  have := right_sized h
  simp only [Shape.mids, rowOf_len]; omega
theorem mids_mid {s : Shape} (h : s.right = true) (u : Int) : u ∈ s.mids ↔ s.isMid u = true := by
  have := right_sized h
  simp only [Shape.mids, rowOf_mem, Shape.isMid, Bool.and_eq_true, decide_eq_true_eq]; omega
theorem Forward_eq {s : Shape} (hl : s.All.length ≤ 2000000) : order_Forward s = some (if s.right = true then s.mids else []) := by
  cases hr : s.right with
  | false => simp [order_Forward, shape_Right_eq hl, hr]
  | true => simp [order_Forward, shape_Right_eq hl, hr, order_all, (all_l (right_sz hr)).1, Shape.mids]

/-- the mids by the rule of the least -/
def Shape.greedy (s : Shape) (fill : Bool) : List Int := greedyP fill s.mids.length s s.mids
end Go.Ab.M
end

section
/-
  PLAIN LAW: CHAINS (each vertex that goes costs one).
-/
namespace Go.Ab.M
set_option linter.unusedVariables false
set_option linter.unusedSimpArgs false

/-! ### an order by a rule has every mid -/
theorem perm_erase : ∀ {m : List Int} {i : Nat}, i < m.length → m.Perm (nth m i :: m.eraseIdx i)
  | [], i, h => by simp at h
  | x :: xs, 0, _ => List.Perm.refl _
  | x :: xs, i + 1, h => by
    have ih := perm_erase (m := xs) (i := i) (by simpa using h)
    have e : nth (x :: xs) (i + 1) = nth xs i := by simp [nth, List.getD]
    rw [e, List.eraseIdx_cons_succ]
    exact (ih.cons x).trans (List.Perm.swap _ _ _)
theorem greedyP_perm (b : Bool) : ∀ (k : Nat) (s : Shape) (m : List Int), m.length = k → (greedyP b k s m).Perm m
  | 0, _, m, h => by
    rw [List.eq_nil_of_length_eq_zero h]
    exact List.Perm.refl _
  | k + 1, s, m, h => by
    have hat := atMin_lt (f := s.tell b) (m := m) (by omega)
    simp only [greedyP]
    exact ((greedyP_perm b k _ _ (by rw [List.length_eraseIdx, if_pos hat]; omega)).cons _).trans (perm_erase hat).symm
/-! ### the law -/
end Go.Ab.M
end
