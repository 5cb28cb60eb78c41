/-
  PLAIN LAW: SHAPES (fill, sameness, and the law).
-/
import Derived.Test.YtgefhpoejihneaaPlSh3
import Derived.Test.YtgefhpoejihneaaW22
namespace Go.Ab.M
set_option linter.unusedVariables false
set_option linter.unusedSimpArgs false

def pairLt (p q : Pair) : Prop := p.From < q.From ∨ (p.From = q.From ∧ p.To < q.To)
theorem pairs_sorted {s : Shape} (h : s.right = true) : s.All.Pairwise pairLt := by
  rw [List.pairwise_iff_getElem]
  simp only [Shape.right, Bool.and_eq_true] at h
  have hs := List.all_eq_true.1 h.2
  have step : ∀ i, i + 1 < s.All.length → pairLt (nth s.All i) (nth s.All (i + 1)) := by
    intro i hi
    have := hs (i + 1) (by simpa using hi)
    simp only [Shape.fits, Bool.and_eq_true, Bool.or_eq_true, decide_eq_true_eq, Nat.add_sub_cancel] at this
    unfold pairLt; omega
  have key : ∀ d i, i + d + 1 < s.All.length → pairLt (nth s.All i) (nth s.All (i + d + 1)) := by
    intro d
    induction d with
    | zero => intro i hi; exact step i hi
    | succ d ih =>
      intro i hi
      have h1 := ih i (by omega)
      have h2 := step (i + d + 1) (by omega)
      unfold pairLt at *
      rw [show i + (d + 1) + 1 = i + d + 1 + 1 by omega]
      omega
  intro i j hi hj hij
  have := key (j - i - 1) i (by omega)
  rw [show i + (j - i - 1) + 1 = j by omega, nth_get hi, nth_get hj] at this
  exact this
theorem ins_nodup {s : Shape} (h : s.right = true) (w : Int) : (insOf s.All w).Nodup := by
  unfold insOf
  rw [List.nodup_iff_pairwise_ne, List.pairwise_map, List.pairwise_filter]
  refine (pairs_sorted h).imp fun {a b} hab h1 h2 => ?_
  simp only [beq_iff_eq] at h1 h2
  unfold pairLt at hab; omega
theorem outs_nodup {s : Shape} (h : s.right = true) (w : Int) : (outsOf s.All w).Nodup := by
  unfold outsOf
  rw [List.nodup_iff_pairwise_ne, List.pairwise_map, List.pairwise_filter]
  refine (pairs_sorted h).imp fun {a b} hab h1 h2 => ?_
  simp only [beq_iff_eq] at h1 h2
  unfold pairLt at hab; omega
theorem cast_nodup {l : List Nat} (h : l.Nodup) : (l.map (fun a : Nat => (a : Int))).Nodup := by
  rw [List.nodup_iff_pairwise_ne, List.pairwise_map]
  rw [List.nodup_iff_pairwise_ne] at h
  exact h.imp fun {a b} hab => by simp only [ne_eq, Int.ofNat_inj]; exact hab
theorem ins_perm {s : Shape} (h : s.right = true) (w : Nat) : (insOf s.All w).Perm (((List.range s.n).filter (fun a : Nat => s.has (a : Int) (w : Int))).map (fun a : Nat => (a : Int))) := by
  refine (List.perm_ext_iff_of_nodup (ins_nodup h w) (cast_nodup (List.nodup_range.filter _))).2 fun a => ?_
  simp only [List.mem_map, List.mem_filter, List.mem_range]
  constructor
  · intro ha
    have hp := right_pair h (mem_ins.1 ha)
    have hn := n_le h
    simp only at hp
    exact ⟨a.toNat, ⟨by omega, by rw [show ((a.toNat : Nat) : Int) = a by omega]; exact ins_has.1 ha⟩, by omega⟩
  · rintro ⟨b, ⟨_, h2⟩, rfl⟩; exact ins_has.2 h2
theorem outs_perm {s : Shape} (h : s.right = true) (w : Nat) : (outsOf s.All w).Perm (((List.range s.n).filter (fun a : Nat => s.has (w : Int) (a : Int))).map (fun a : Nat => (a : Int))) := by
  refine (List.perm_ext_iff_of_nodup (outs_nodup h w) (cast_nodup (List.nodup_range.filter _))).2 fun a => ?_
  simp only [List.mem_map, List.mem_filter, List.mem_range]
  constructor
  · intro ha
    have hp := right_pair h (mem_outs.1 ha)
    have hn := n_le h
    simp only at hp
    exact ⟨a.toNat, ⟨by omega, by rw [show ((a.toNat : Nat) : Int) = a by omega]; exact outs_has.1 ha⟩, by omega⟩
  · rintro ⟨b, ⟨_, h2⟩, rfl⟩; exact outs_has.2 h2
theorem sum_filter {α : Type} (p : α → Bool) (f : α → Nat) : ∀ l : List α, ((l.filter p).map f).sum = (l.map fun a => if p a = true then f a else 0).sum
  | [] => rfl
  | a :: l => by
    by_cases e : p a = true
    · simp [e, sum_filter p f l]
    · simp [e, sum_filter p f l]

/-- how many pairs are new -/
def Shape.fillN (s : Shape) (w : Nat) : Nat := ((insOf s.All w).map fun x => (outsOf s.All w).countP fun y => !s.has x y).sum
theorem fill_eq {s : Shape} (h : s.right = true) (w : Nat) : s.fillN w = (pairsTo s.n (nextP s w) s.n).countP fun p => !s.has p.From p.To := by
  unfold Shape.fillN
  rw [((ins_perm h w).map _).sum_nat, List.map_map, sum_filter]
  unfold pairsTo
  rw [List.countP_flatMap]
  congr 1
  apply List.map_congr_left
  intro a ha
  simp only [Function.comp_apply]
  rw [(outs_perm h w).countP_eq, List.countP_map, List.countP_filter, List.countP_map, List.countP_filter]
  by_cases e : s.has (a : Int) (w : Int) = true
  · rw [if_pos e]
    apply List.countP_congr
    intro b hb
    have h1 := has_lt h e
    simp only [Function.comp_apply, nextP, e, Bool.and_eq_true, Bool.true_and, decide_eq_true_eq, Bool.not_eq_true', Bool.or_eq_true]
    constructor
    · rintro ⟨x, y⟩
      have h2 := has_lt h y
      exact ⟨x, ⟨⟨by omega, by omega⟩, .inr y⟩⟩
    · rintro ⟨x, ⟨⟨_, _⟩, y | y⟩⟩
      · rw [y] at x; cases x
      · exact ⟨x, y⟩
  · rw [if_neg e]
    symm
    rw [List.countP_eq_zero]
    intro b hb
    simp only [Bool.not_eq_true] at e
    simp only [Function.comp_apply, nextP, e, Bool.false_and, Bool.or_false]
    cases s.has (a : Int) (b : Int) <;> simp

theorem Fill_l_2_eq {s : Shape} (h : s.right = true) (hl : s.All.length ≤ 1000) {w i f : Nat} {n : Nat} (hf : nth (insOf s.All w) i = (f : Int)) (hf2 : f < s.n) {L : List (Nat → Int)} (hL : L.length = s.n) (hW : AllW L) (hH : ∀ a b, a < s.n → hasF (nth L a) b = s.has a b) (hn0 : n ≤ 2000000) :
    shape_Fill_l_2 (insOf s.All w, outsOf s.All w) L i n 0 = some (n + (outsOf s.All w).countP fun y => !s.has (nth (insOf s.All w) i) y) := by
  have hlen := outsOf_len s.All w
  have hn := n_le h
  unfold shape_Fill_l_2
  have := loop_run (round := fun σ : Nat × Nat => shape_Fill_l_2_rd (insOf s.All w, outsOf s.All w) L i σ.1 σ.2) (fun j => (n + ((outsOf s.All w).take j).countP fun y => !s.has (nth (insOf s.All w) i) y, j)) (outsOf s.All w).length (r := n + (outsOf s.All w).countP fun y => !s.has (nth (insOf s.All w) i) y) (fun j hj => ?_) ?_ (by simp only [FU]; omega)
  · simpa using this
  · obtain ⟨g, hg, hg2, -, -⟩ := outs_nat h hj
    have hc : ((outsOf s.All w).take j).countP (fun y => !s.has (f : Int) y) ≤ j := Nat.le_trans List.countP_le_length (by rw [List.length_take]; omega)
    have hq := has_eq2 (hW f (by omega)) (v := g) (by omega)
    rw [hH f g hf2] at hq
    simp (disch := omega) only [shape_Fill_l_2_rd, hf, hg, Int.toNat_natCast, hq, Bool.cond_decide, if_t, Option.bind_some, inK_i64, cond_true, take_nth hj, List.countP_append, List.countP_singleton]
    cases s.has (f : Int) (g : Int) <;> rfl
  · simp [shape_Fill_l_2_rd]
theorem Fill_l_eq {s : Shape} (h : s.right = true) (hl : s.All.length ≤ 1000) {w : Nat} {L : List (Nat → Int)} (hL : L.length = s.n) (hW : AllW L) (hH : ∀ a b, a < s.n → hasF (nth L a) b = s.has a b) :
    shape_Fill_l (insOf s.All w, outsOf s.All w) L 0 0 = some (s.fillN w) := by
  have hlen := insOf_len s.All w
  have hlen2 := outsOf_len s.All w
  have hn := n_le h
  have hb : ∀ i, i ≤ (insOf s.All w).length → (((insOf s.All w).take i).map fun x => (outsOf s.All w).countP fun y => !s.has x y).sum ≤ i * 1000 := by
    intro i
    induction i with
    | zero => intro _; simp
    | succ i ih =>
      intro hi
      rw [take_nth (by omega), List.map_append, List.sum_append]
      have h1 := ih (by omega)
      have h2 : (outsOf s.All w).countP (fun y => !s.has (nth (insOf s.All w) i) y) ≤ (outsOf s.All w).length := List.countP_le_length
      simp only [List.map_cons, List.map_nil, List.sum_cons, List.sum_nil]
      omega
  unfold shape_Fill_l Shape.fillN
  have := loop_run (round := fun σ : Nat × Nat => shape_Fill_l_rd (insOf s.All w, outsOf s.All w) L σ.1 σ.2) (fun i => ((((insOf s.All w).take i).map fun x => (outsOf s.All w).countP fun y => !s.has x y).sum, i)) (insOf s.All w).length (r := ((insOf s.All w).map fun x => (outsOf s.All w).countP fun y => !s.has x y).sum) (fun i hi => ?_) ?_ (by simp only [FU]; omega)
  · simpa using this
  · obtain ⟨f, hf, hf2, -, -⟩ := ins_nat h hi
    have hbi := hb i (by omega)
    have h2 := Fill_l_2_eq h hl (i := i) hf hf2 hL hW hH (n := (((insOf s.All w).take i).map fun x => (outsOf s.All w).countP fun y => !s.has x y).sum) (by omega)
    simp (disch := omega) only [shape_Fill_l_rd, h2, Bool.cond_decide, if_t, Option.bind_some, inK_i64, cond_true, take_nth hi, List.map_append, List.sum_append, List.map_cons, List.map_nil, List.sum_cons, List.sum_nil, Nat.add_zero]
  · simp [shape_Fill_l_rd]
def Shape.fill (s : Shape) (v : Int) : Int := if s.right = true then (if s.isMid v = true then (s.fillN v.toNat : Int) else 0) else 0
theorem shape_Fill_eq {s : Shape} (hl : s.All.length ≤ 1000) (v : Int) : shape_Fill s v = some (s.fill v) := by
  have hl2 : s.All.length ≤ 2000000 := by omega
  unfold Shape.fill
  cases hr : s.right with
  | false => simp [shape_Fill, shape_Right_eq hl2, hr]
  | true =>
    cases hm : s.isMid v with
    | false => simp [shape_Fill, shape_Right_eq hl2, shape_mid_eq hr, hr, hm]
    | true =>
      have hs := right_sized hr
      have hv : s.Ins ≤ v ∧ v < s.Ins + s.Mids := by simpa [Shape.isMid] using hm
      obtain ⟨w, rfl⟩ : ∃ w : Nat, v = w := ⟨v.toNat, by omega⟩
      obtain ⟨L0, a1, a2, a3, a4, a5⟩ := rows_eq hr hl2
      simp only [shape_Fill, shape_Right_eq hl2, shape_mid_eq hr, hr, hm, Option.bind_some, Bool.not_true, cond_false, shape_ends_eq hl2, a1, Fill_l_eq hr hl a3 a4 a5, if_true, Int.toNat_natCast]
theorem ref22_Fill_l_eq {s : Shape} (hl : s.All.length ≤ 2000000) (x : Shape × Int × Int) (hx : x.1.All.length ≤ 2000000) : ref22_Fill_l s x 0 0 = some (x.1.All.countP fun p => !s.has p.From p.To) := by
  unfold ref22_Fill_l
  have := loop_run (round := fun σ : Nat × Nat => ref22_Fill_l_rd s x σ.1 σ.2) (fun j => ((x.1.All.take j).countP fun p => !s.has p.From p.To, j)) x.1.All.length (r := x.1.All.countP fun p => !s.has p.From p.To) (fun j hj => ?_) ?_ (by simp only [FU]; omega)
  · simpa using this
  · have hc : (x.1.All.take j).countP (fun p => !s.has p.From p.To) ≤ j := Nat.le_trans List.countP_le_length (by rw [List.length_take]; omega)
    simp (disch := omega) only [ref22_Fill_l_rd, ref22_Has_eq hl, Bool.cond_decide, if_t, Option.bind_some, inK_i64, cond_true, take_nth hj, List.countP_append, List.countP_singleton]
    cases s.has (nth x.1.All j).From (nth x.1.All j).To <;> rfl
  · simp [ref22_Fill_l_rd]
theorem ref22_Fill_eq {s : Shape} (hl : s.All.length ≤ 1000) (v : Int) : ref22_Fill s v = some (s.fill v) := by
  have hl2 : s.All.length ≤ 2000000 := by omega
  unfold Shape.fill
  cases hr : s.right with
  | false => simp [ref22_Fill, ref22_Mid_eq hl2, hr]
  | true =>
    cases hm : s.isMid v with
    | false => simp [ref22_Fill, ref22_Mid_eq hl2, hr, hm]
    | true =>
      have hs := right_sized hr
      have hn := n_le hr
      have hp := pairsTo_len s.n (nextP s v.toNat) s.n
      have hb : s.n * s.n ≤ 480 * 480 := Nat.mul_le_mul hn.1 hn.1
      simp only [ref22_Fill, ref22_Mid_eq hl2, hr, hm, Bool.and_self, Option.bind_some, Bool.not_true, cond_false, ref22_Next_eq hl2, if_true]
      rw [ref22_Fill_l_eq hl2 _ (by simp only; omega)]
      simp only [Option.bind_some, fill_eq hr]

theorem Same_rd {a : Shape} {i : Nat} (hl : a.All.length ≤ 2000000) (hi : i < a.All.length) : ref22_Same_l_rd a a i = some (.inl (i + 1)) := by
  have e1 : inK .i64 ((i : Int) + 1) = true := inK_i64 (by omega) (by omega)
  have e2 : decide ((i : Int) < ((a.All.length : Nat) : Int)) = true := by simp only [decide_eq_true_eq]; omega
  have e3 : decide (i < a.All.length) = true := by simp only [decide_eq_true_eq]; omega
  simp only [ref22_Same_l_rd, beq_self_eq_true, Bool.and_self, Bool.not_true, cond_false, e1, e2, e3, cond_true]
theorem Same_end (a : Shape) : ref22_Same_l_rd a a a.All.length = some (.inr (.inr ())) := by
  simp only [ref22_Same_l_rd, Int.lt_irrefl, decide_false, cond_false]
theorem Same_l (a : Shape) (hl : a.All.length ≤ 2000000) : ref22_Same_l a a 0 = some (.inr ()) := by
  unfold ref22_Same_l
  exact loop_run (round := fun σ : Nat => ref22_Same_l_rd a a σ) (fun i => i) a.All.length (fun i hi => Same_rd hl hi) (Same_end a) (by simp only [FU]; omega)
theorem ref22_Same_eq (a : Shape) (hl : a.All.length ≤ 2000000) : ref22_Same a a = some true := by
  unfold ref22_Same
  rw [Same_l a hl]
  simp only [bne_self_eq_false, cond_false, Option.bind_some, caseS_inr]
theorem ref22_Few_eq (s : Shape) : ∃ b, ref22_Few s = some b ∧ (b = true → s.All.length ≤ 40) := by
  simp only [ref22_Few, Bool.cond_decide]
  repeat' split
  · exact ⟨_, rfl, fun h => by simp only [decide_eq_true_eq] at h; omega⟩
  all_goals exact ⟨_, rfl, fun h => by cases h⟩
theorem next_len {s : Shape} (hl : s.All.length ≤ 2000000) (v : Int) : (s.next v).1.All.length ≤ 2000000 := by
  unfold Shape.next
  cases hr : s.right with
  | false => simp
  | true =>
    cases hm : s.isMid v with
    | false => simp
    | true =>
      have hn := n_le hr
      have hp := pairsTo_len s.n (nextP s v.toNat) s.n
      have hb : s.n * s.n ≤ 480 * 480 := Nat.mul_le_mul hn.1 hn.1
      simp only [if_true]; omega
theorem ShapeTells_few {s : Shape} (h : ref22_Few s = some false) (v : Int) : law22_ShapeTells s v = some true := by
  unfold law22_ShapeTells
  rw [awake22, h]
  rfl
theorem ShapeTells_many {s : Shape} (h : ref22_Few s = some true) (v : Int) (hl : s.All.length ≤ 40) : law22_ShapeTells s v = some true := by
  have hl2 : s.All.length ≤ 2000000 := by omega
  have hnx : ref22_Next s v = some (s.next v) := ref22_Next_eq hl2 v
  have hsn := shape_Next_eq hl2 v
  rw [hnx] at hsn
  unfold law22_ShapeTells
  rw [awake22, h]
  simp only [Option.bind_some, Bool.not_true, cond_false, hnx, hsn, cond_true, shape_Right_eq hl2, ref22_Right_eq hl2, BEq.rfl, shape_Cost_eq hl2, ref22_Cost_eq hl2, shape_Fill_eq (show s.All.length ≤ 1000 by omega), ref22_Fill_eq (show s.All.length ≤ 1000 by omega), ref22_Same_eq _ (next_len hl2 v)]
theorem ShapeTells_true (s : Shape) (v : Int) : law22_ShapeTells s v = some true := by
  obtain ⟨b, h1, h2⟩ := ref22_Few_eq s
  cases b with
  | false => exact ShapeTells_few h1 v
  | true => exact ShapeTells_many h1 v (h2 rfl)
end Go.Ab.M
