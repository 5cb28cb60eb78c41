/-
  THE LAW 'EdgeVertex' HOLDS AT EVERY INPUT.
  Conditions: none.
-/
import Derived.Test.YtcelliafjmmldaaGreatLwEdgeVertex
import Derived.Test.YtcelliafjmmldaaGreatTN
import Derived.Test.YtcelliafjmmldaaGreatPR
import Derived.Test.YtcelliafjmmldaaGreatPS
section
/-
  PLAIN LAW: SEARCHING IN SORTED EDGES; EDGES PUT IN AND TAKEN OUT.
-/
namespace Go.Ab.M
open Go.Proofs Go.Ab
set_option linter.unusedVariables false
set_option linter.unusedSimpArgs false

theorem edge_find_1_eq (x y : Edge) : edge_find_1 x y = some (cmpG x y) := by
  unfold edge_find_1
  simp only [compareG, Option.bind_some, or2G]
  congr 1
  unfold cmpG
  repeat' split
  all_goals omega
def befE (e : Edge) (a b : Int) : Prop := e.From < a ∨ (e.From = a ∧ e.To < b)
instance (e : Edge) (a b : Int) : Decidable (befE e a b) := by unfold befE; infer_instance
theorem cmpG_lt {x y : Edge} : cmpG x y < 0 ↔ befE x y.From y.To := by
  unfold cmpG befE
  repeat' split
  all_goals (constructor <;> intro h <;> omega)
theorem cmpG_eq {x y : Edge} : cmpG x y = 0 ↔ x.From = y.From ∧ x.To = y.To := by
  unfold cmpG
  repeat' split
  all_goals (constructor <;> intro h <;> omega)
theorem mid_eq {i j : Nat} (h : i + j ≤ 4000000000) : IntKind.wrap .i64 (shrI .u64 (IntKind.wrap .u64 ((i : Int) + (j : Int))) 1) = (((i + j) / 2 : Nat) : Int) := by
  have e : (i : Int) + (j : Int) = ((i + j : Nat) : Int) := (Int.natCast_add ..).symm
  rw [e, wrap_u64 (isW_nat (by omega))]
  have e1 : shrI .u64 ((i + j : Nat) : Int) 1 = ((i + j : Nat) : Int).fdiv (2 ^ 1) := rfl
  rw [e1, Int.fdiv_eq_ediv_of_nonneg _ (by decide)]
  have e2 : ((i + j : Nat) : Int) / 2 ^ 1 = (((i + j) / 2 : Nat) : Int) := by omega
  rw [e2, IntKind.wrap_i64]
  omega
theorem bs_loop {l : List Edge} {a b : Int} {w : Rat} (hl : l.length ≤ 1000000) {k : Nat} (hk : k ≤ l.length) (h1 : ∀ p, p < k → befE (nth l p) a b) (h2 : ∀ p, k ≤ p → p < l.length → ¬ befE (nth l p) a b) :
    ∀ (n i j : Nat), j - i < n → i ≤ k → k ≤ j → j ≤ l.length → loopN (fun σ : Int × Int => slices_BinarySearchFunc_api_Edge_api_Edge_api_Edge_l_rd l ⟨a, b, w⟩ σ.1 σ.2) n ((i : Int), (j : Int)) = some (k : Int)
  | 0, i, j, h, _, _, _ => by omega
  | n + 1, i, j, h, hi, hj, hjl => by
    show (slices_BinarySearchFunc_api_Edge_api_Edge_api_Edge_l_rd l ⟨a, b, w⟩ (i : Int) (j : Int)).bind _ = _
    by_cases c : i < j
    · have g1 : (i : Int) < (j : Int) := by omega
      have hm := mid_eq (i := i) (j := j) (by omega)
      have g2 : (0 : Int) ≤ (((i + j) / 2 : Nat) : Int) := by omega
      have g3 : (i + j) / 2 < l.length := by omega
      have e3 : (((i + j) / 2 : Nat) : Int).toNat = (i + j) / 2 := by omega
      have ii : inK .i64 ((i : Int) + (j : Int)) = true := inK_i64 (by omega) (by omega)
      have i2 : inK .i64 ((((i + j) / 2 : Nat) : Int) + 1) = true := inK_i64 (by omega) (by omega)
      by_cases d : befE (nth l ((i + j) / 2)) a b
      · have q : cmpG (nth l ((i + j) / 2)) ⟨a, b, w⟩ < 0 := cmpG_lt.2 d
        have hlt : (i + j) / 2 < k := by
          rcases Nat.lt_or_ge ((i + j) / 2) k with x | x
          · exact x
          · exact absurd d (h2 _ x (by omega))
        have := bs_loop (w := w) hl hk h1 h2 n ((i + j) / 2 + 1) j (by omega) (by omega) hj hjl
        have e4 : (((i + j) / 2 : Nat) : Int) + 1 = (((i + j) / 2 + 1 : Nat) : Int) := by omega
        rw [← e4] at this
        have r : slices_BinarySearchFunc_api_Edge_api_Edge_api_Edge_l_rd l ⟨a, b, w⟩ (i : Int) (j : Int) = some (.inl ((((i + j) / 2 : Nat) : Int) + 1, (j : Int))) := by
          simp only [slices_BinarySearchFunc_api_Edge_api_Edge_api_Edge_l_rd, decide_eq_true g1, cond_true, ii, hm, decide_eq_true g2, e3, decide_eq_true g3, edge_find_1_eq, Option.bind_some, decide_eq_true q, i2]
        rw [r]
        exact this
      · have q : ¬ cmpG (nth l ((i + j) / 2)) ⟨a, b, w⟩ < 0 := fun x => d (cmpG_lt.1 x)
        have hge : k ≤ (i + j) / 2 := by
          rcases Nat.lt_or_ge ((i + j) / 2) k with x | x
          · exact absurd (h1 _ x) d
          · exact x
        have := bs_loop (w := w) hl hk h1 h2 n i ((i + j) / 2) (by omega) hi hge (by omega)
        have r : slices_BinarySearchFunc_api_Edge_api_Edge_api_Edge_l_rd l ⟨a, b, w⟩ (i : Int) (j : Int) = some (.inl ((i : Int), (((i + j) / 2 : Nat) : Int))) := by
          simp only [slices_BinarySearchFunc_api_Edge_api_Edge_api_Edge_l_rd, decide_eq_true g1, cond_true, ii, hm, decide_eq_true g2, e3, decide_eq_true g3, edge_find_1_eq, Option.bind_some, decide_eq_false q, cond_false]
        rw [r]
        exact this
    · have g1 : ¬ (i : Int) < (j : Int) := by omega
      obtain rfl : i = k := by omega
      simp only [slices_BinarySearchFunc_api_Edge_api_Edge_api_Edge_l_rd, decide_eq_false g1, cond_false, Option.bind_some, caseS_inr]
/-- the place of a pair in sorted edges -/
def plE (l : List Edge) (a b : Int) : Nat := (l.filter fun e => decide (befE e a b)).length
theorem plE_le (l : List Edge) (a b : Int) : plE l a b ≤ l.length := List.length_filter_le _ _
theorem plE_is : ∀ {l : List Edge}, l.Pairwise edgeLt → ∀ (a b : Int), (∀ p, p < plE l a b → befE (nth l p) a b) ∧ ∀ p, plE l a b ≤ p → p < l.length → ¬ befE (nth l p) a b
  | [], _, a, b => ⟨fun p hp => by simp [plE] at hp, fun p _ hp => by simp at hp⟩
  | e :: l, h, a, b => by
    obtain ⟨hh, ht⟩ := List.pairwise_cons.1 h
    obtain ⟨i1, i2⟩ := plE_is ht a b
    by_cases c : befE e a b
    · have e1 : plE (e :: l) a b = plE l a b + 1 := by unfold plE; rw [List.filter_cons_of_pos (by simpa using c)]; rfl
      rw [e1]
      refine ⟨fun p hp => ?_, fun p hp hp2 => ?_⟩
      · cases p with
        | zero => exact c
        | succ p => exact i1 p (by omega)
      · cases p with
        | zero => omega
        | succ p => exact i2 p (by omega) (by simpa using hp2)
    · have e0 : ∀ x ∈ l, ¬ befE x a b := fun x hx hb => c (by have := hh x hx; unfold edgeLt at this; unfold befE at *; omega)
      have e1 : plE (e :: l) a b = 0 := by
        unfold plE
        rw [List.length_eq_zero_iff, List.filter_eq_nil_iff]
        intro x hx
        rcases List.mem_cons.1 hx with rfl | hx
        · simpa using c
        · simpa using e0 x hx
      rw [e1]
      refine ⟨fun p hp => by omega, fun p _ hp2 => ?_⟩
      cases p with
      | zero => exact c
      | succ p => exact e0 _ (nth_mem (l := l) (i := p) (by simpa using hp2))
/-- is a pair there? -/
def hasE (l : List Edge) (a b : Int) : Bool := l.any fun e => e.From == a && e.To == b
theorem hasE_iff {l : List Edge} {a b : Int} : hasE l a b = true ↔ ∃ e, e ∈ l ∧ e.From = a ∧ e.To = b := by
  unfold hasE
  rw [List.any_eq_true]
  constructor
  · rintro ⟨e, he, h⟩
    rw [Bool.and_eq_true, beq_iff_eq, beq_iff_eq] at h
    exact ⟨e, he, h⟩
  · rintro ⟨e, he, h⟩
    exact ⟨e, he, by rw [Bool.and_eq_true, beq_iff_eq, beq_iff_eq]; exact h⟩
theorem hasE_at {l : List Edge} (h : l.Pairwise edgeLt) {a b : Int} : hasE l a b = true ↔ plE l a b < l.length ∧ (nth l (plE l a b)).From = a ∧ (nth l (plE l a b)).To = b := by
  obtain ⟨i1, i2⟩ := plE_is h a b
  rw [hasE_iff]
  constructor
  · rintro ⟨e, he, rfl, rfl⟩
    obtain ⟨p, hp, rfl⟩ := mem_nth he
    have hle : plE l (nth l p).From (nth l p).To ≤ p := by
      rcases Nat.lt_or_ge p (plE l (nth l p).From (nth l p).To) with x | x
      · have := i1 p x; unfold befE at this; omega
      · exact x
    have hlt : plE l (nth l p).From (nth l p).To < l.length := by omega
    have := i2 _ (Nat.le_refl _) hlt
    by_cases c : plE l (nth l p).From (nth l p).To = p
    · rw [c]; exact ⟨hp, rfl, rfl⟩
    · have hs := List.pairwise_iff_getElem.1 h _ p hlt hp (by omega)
      rw [← nth_get hlt, ← nth_get hp] at hs
      exact absurd hs (by unfold edgeLt; unfold befE at this; exact this)
  · rintro ⟨h1, h2⟩
    exact ⟨_, nth_mem h1, h2⟩
theorem find_eq {l : List Edge} (h : l.Pairwise edgeLt) (hl : l.length ≤ 1000000) (a b : Int) : edge_find l a b = some (((plE l a b : Nat) : Int), hasE l a b) := by
  obtain ⟨i1, i2⟩ := plE_is h a b
  have hk := plE_le l a b
  have hb : slices_BinarySearchFunc_api_Edge_api_Edge_api_Edge_l l ⟨a, b, Rat.mk false [] []⟩ 0 ((l.length : Nat) : Int) = some ((plE l a b : Nat) : Int) :=
    bs_loop hl hk i1 i2 FU 0 l.length (by simp only [FU]; omega) (Nat.zero_le _) hk (Nat.le_refl _)
  have hz := hasE_at h (a := a) (b := b)
  by_cases c : plE l a b < l.length
  · have g1 : ((plE l a b : Nat) : Int) < ((l.length : Nat) : Int) := by omega
    have g2 : (0 : Int) ≤ ((plE l a b : Nat) : Int) := by omega
    have e3 : ((plE l a b : Nat) : Int).toNat = plE l a b := by omega
    have e4 : (cmpG (nth l (plE l a b)) ⟨a, b, Rat.mk false [] []⟩ == 0) = hasE l a b := by
      rw [Bool.eq_iff_iff, beq_iff_eq, cmpG_eq, hz]
      exact ⟨fun x => ⟨c, x⟩, fun x => x.2⟩
    simp only [edge_find, slices_BinarySearchFunc_api_Edge_api_Edge_api_Edge, hb, Option.bind_some, decide_eq_true g1, decide_eq_true g2, e3, decide_eq_true c, cond_true, edge_find_1_eq, e4]
  · have g1 : ¬ ((plE l a b : Nat) : Int) < ((l.length : Nat) : Int) := by omega
    have e4 : hasE l a b = false := by
      cases q : hasE l a b with
      | false => rfl
      | true => exact absurd (hz.1 q).1 c
    simp only [edge_find, slices_BinarySearchFunc_api_Edge_api_Edge_api_Edge, hb, Option.bind_some, decide_eq_false g1, cond_false, e4]
/-! ### surgery -/
theorem edges_uniq {l m : List Edge} (h : l.Pairwise edgeLt) (k : m.Pairwise edgeLt) (e : ∀ x, x ∈ l ↔ x ∈ m) : l = m := by
  have nd : ∀ {l : List Edge}, l.Pairwise edgeLt → l.Nodup := fun h => h.imp fun {a b} q => fun e => by subst e; unfold edgeLt at q; omega
  refine ((List.perm_ext_iff_of_nodup (nd h) (nd k)).2 e).eq_of_pairwise (le := edgeLt) (fun a b _ _ h1 h2 => ?_) h k
  unfold edgeLt at h1 h2; omega
theorem edgesOf_sorted (n : Nat) (t : Tab) : (edgesOf n t).Pairwise edgeLt :=
  grid_pair (fun i k i' k' x y h h' hlt => by
    rw [Option.map_eq_some_iff] at h h'
    obtain ⟨q, _, rfl⟩ := h
    obtain ⟨q', _, rfl⟩ := h'
    show (i : Int) < (i' : Int) ∨ ((i : Int) = (i' : Int) ∧ (k : Int) < (k' : Int))
    omega) n
theorem mem_edgesOf {n : Nat} {t : Tab} {e : Edge} : e ∈ edgesOf n t ↔ ∃ i k q, i < n ∧ k < n ∧ t i k = some q ∧ e = ⟨(i : Int), (k : Int), ofR q⟩ := by
  unfold edgesOf
  rw [mem_grid]
  constructor
  · rintro ⟨i, k, hi, hk, h⟩
    rw [Option.map_eq_some_iff] at h
    obtain ⟨q, hq, rfl⟩ := h
    exact ⟨i, k, q, hi, hk, hq, rfl⟩
  · rintro ⟨i, k, q, hi, hk, hq, rfl⟩
    exact ⟨i, k, hi, hk, by rw [hq]; rfl⟩
def delT (t : Tab) (a b : Nat) : Tab := fun i k => if i = a ∧ k = b then none else t i k
theorem has_edgesOf {n : Nat} {t : Tab} {a b : Nat} (ha : a < n) (hb : b < n) : hasE (edgesOf n t) (a : Int) (b : Int) = (t a b).isSome := by
  rw [Bool.eq_iff_iff, hasE_iff]
  constructor
  · rintro ⟨e, he, h1, h2⟩
    obtain ⟨i, k, q, hi, hk, hq, rfl⟩ := mem_edgesOf.1 he
    have e1 : i = a := by have : (i : Int) = a := h1; omega
    have e2 : k = b := by have : (k : Int) = b := h2; omega
    subst e1; subst e2
    rw [hq]; rfl
  · intro h
    obtain ⟨q, hq⟩ := Option.isSome_iff_exists.1 h
    exact ⟨_, mem_edgesOf.2 ⟨a, b, q, ha, hb, hq, rfl⟩, rfl, rfl⟩
theorem take_mem_lt {l : List Edge} {k : Nat} {x : Edge} (h : x ∈ l.take k) : ∃ p, p < k ∧ p < l.length ∧ nth l p = x := by
  obtain ⟨p, hp, e⟩ := List.getElem_of_mem h
  rw [List.length_take] at hp
  refine ⟨p, by omega, by omega, ?_⟩
  rw [nth_get (by omega), ← e, List.getElem_take]
theorem drop_mem_ge {l : List Edge} {k : Nat} {x : Edge} (h : x ∈ l.drop k) : ∃ p, k ≤ p ∧ p < l.length ∧ nth l p = x := by
  obtain ⟨p, hp, e⟩ := List.getElem_of_mem h
  rw [List.length_drop] at hp
  refine ⟨k + p, by omega, by omega, ?_⟩
  rw [nth_get (by omega), ← e, List.getElem_drop]
/-- an edge at its place, instead of what was there -/
theorem put_is {n : Nat} {t : Tab} {a b : Nat} (ha : a < n) (hb : b < n) (q : _root_.Rat) {m : Nat} (hm : m = if (t a b).isSome = true then plE (edgesOf n t) a b + 1 else plE (edgesOf n t) a b) :
    (edgesOf n t).take (plE (edgesOf n t) a b) ++ (⟨(a : Int), (b : Int), ofR q⟩ : Edge) :: (edgesOf n t).drop m = edgesOf n (updT t a b q) := by
  have hs := edgesOf_sorted n t
  obtain ⟨i1, i2⟩ := plE_is hs (a : Int) (b : Int)
  have hz := hasE_at hs (a := (a : Int)) (b := (b : Int))
  rw [has_edgesOf ha hb] at hz
  generalize plE (edgesOf n t) (a : Int) (b : Int) = k at *
  have hkm : k ≤ m := by rw [hm]; split <;> omega
  -- behind the place
  have hbig : ∀ p, m ≤ p → p < (edgesOf n t).length → (a : Int) < (nth (edgesOf n t) p).From ∨ ((a : Int) = (nth (edgesOf n t) p).From ∧ (b : Int) < (nth (edgesOf n t) p).To) := fun p hp hpl => by
    have h1 := i2 p (by omega) hpl
    by_cases c : (t a b).isSome = true
    · obtain ⟨z1, z2, z3⟩ := hz.1 c
      rw [if_pos c] at hm
      have hs' := List.pairwise_iff_getElem.1 hs k p z1 hpl (by omega)
      rw [← nth_get z1, ← nth_get hpl] at hs'
      unfold edgeLt at hs'
      omega
    · have h2 : ¬ ((nth (edgesOf n t) p).From = (a : Int) ∧ (nth (edgesOf n t) p).To = (b : Int)) := fun h => c (by
        rw [← has_edgesOf ha hb (t := t)]
        exact hasE_iff.2 ⟨_, nth_mem hpl, h⟩)
      unfold befE at h1
      omega
  refine edges_uniq ?_ (edgesOf_sorted _ _) fun x => ?_
  · refine List.pairwise_append.2 ⟨hs.sublist (List.take_sublist _ _), List.pairwise_cons.2 ⟨fun x hx => ?_, hs.sublist (List.drop_sublist _ _)⟩, fun x hx y hy => ?_⟩
    · obtain ⟨p, h1, h2, rfl⟩ := drop_mem_ge hx
      exact hbig p h1 h2
    · obtain ⟨p, h1, h2, rfl⟩ := take_mem_lt hx
      have h3 := i1 p h1
      rcases List.mem_cons.1 hy with rfl | hy
      · exact h3
      · obtain ⟨p', h1', h2', rfl⟩ := drop_mem_ge hy
        have h4 := hbig p' h1' h2'
        unfold befE at h3
        unfold edgeLt
        omega
  · rw [List.mem_append, List.mem_cons, mem_edgesOf]
    constructor
    · rintro (hx | rfl | hx)
      · obtain ⟨p, h1, h2, rfl⟩ := take_mem_lt hx
        have h3 := i1 p h1
        obtain ⟨i, j, r, hi, hj, hr, e⟩ := mem_edgesOf.1 (nth_mem h2)
        rw [e] at h3 ⊢
        refine ⟨i, j, r, hi, hj, ?_, rfl⟩
        unfold updT
        rw [if_neg (fun c => by unfold befE at h3; simp only at h3; omega)]
        exact hr
      · exact ⟨a, b, q, ha, hb, by unfold updT; rw [if_pos ⟨rfl, rfl⟩], rfl⟩
      · obtain ⟨p, h1, h2, rfl⟩ := drop_mem_ge hx
        have h3 := hbig p h1 h2
        obtain ⟨i, j, r, hi, hj, hr, e⟩ := mem_edgesOf.1 (nth_mem h2)
        rw [e] at h3 ⊢
        refine ⟨i, j, r, hi, hj, ?_, rfl⟩
        unfold updT
        rw [if_neg (fun c => by simp only at h3; omega)]
        exact hr
    · rintro ⟨i, j, r, hi, hj, hr, rfl⟩
      unfold updT at hr
      by_cases c : i = a ∧ j = b
      · rw [if_pos c] at hr
        cases hr
        rw [c.1, c.2]
        exact .inr (.inl rfl)
      · rw [if_neg c] at hr
        have hx : (⟨(i : Int), (j : Int), ofR r⟩ : Edge) ∈ edgesOf n t := mem_edgesOf.2 ⟨i, j, r, hi, hj, hr, rfl⟩
        obtain ⟨p, hp, e⟩ := mem_nth hx
        by_cases d : p < k
        · left
          rw [← e, nth_get hp]
          exact List.mem_take_iff_getElem.2 ⟨p, by omega, rfl⟩
        · right; right
          have hmp : m ≤ p := by
            rw [hm]
            by_cases c2 : (t a b).isSome = true
            · rw [if_pos c2]
              by_cases d2 : p = k
              · exfalso
                obtain ⟨z1, z2, z3⟩ := hz.1 c2
                rw [← d2, e] at z2 z3
                have z2 : (i : Int) = a := z2
                have z3 : (j : Int) = b := z3
                omega
              · omega
            · rw [if_neg c2]; omega
          rw [← e, nth_get hp]
          exact List.mem_drop_iff_getElem.2 ⟨p - m, by omega, by congr 1; omega⟩
/-- without an edge that is there -/
theorem cut_is {n : Nat} {t : Tab} {a b : Nat} (ha : a < n) (hb : b < n) (h : (t a b).isSome = true) :
    (edgesOf n t).take (plE (edgesOf n t) a b) ++ (edgesOf n t).drop (plE (edgesOf n t) a b + 1) = edgesOf n (delT t a b) := by
  have hs := edgesOf_sorted n t
  obtain ⟨i1, i2⟩ := plE_is hs (a : Int) (b : Int)
  have hz := hasE_at hs (a := (a : Int)) (b := (b : Int))
  rw [has_edgesOf ha hb] at hz
  obtain ⟨z1, z2, z3⟩ := hz.1 h
  generalize plE (edgesOf n t) (a : Int) (b : Int) = k at *
  have hbig : ∀ p, k + 1 ≤ p → p < (edgesOf n t).length → (a : Int) < (nth (edgesOf n t) p).From ∨ ((a : Int) = (nth (edgesOf n t) p).From ∧ (b : Int) < (nth (edgesOf n t) p).To) := fun p hp hpl => by
    have hs' := List.pairwise_iff_getElem.1 hs k p z1 hpl (by omega)
    rw [← nth_get z1, ← nth_get hpl] at hs'
    unfold edgeLt at hs'
    omega
  refine edges_uniq (List.pairwise_append.2 ⟨hs.sublist (List.take_sublist _ _), hs.sublist (List.drop_sublist _ _), fun x hx y hy => ?_⟩) (edgesOf_sorted _ _) fun x => ?_
  · obtain ⟨p, h1, h2, rfl⟩ := take_mem_lt hx
    obtain ⟨p', h1', h2', rfl⟩ := drop_mem_ge hy
    have h3 := i1 p h1
    have h4 := hbig p' h1' h2'
    unfold befE at h3
    unfold edgeLt
    omega
  · rw [List.mem_append, mem_edgesOf]
    constructor
    · rintro (hx | hx)
      · obtain ⟨p, h1, h2, rfl⟩ := take_mem_lt hx
        have h3 := i1 p h1
        obtain ⟨i, j, r, hi, hj, hr, e⟩ := mem_edgesOf.1 (nth_mem h2)
        rw [e] at h3 ⊢
        refine ⟨i, j, r, hi, hj, ?_, rfl⟩
        unfold delT
        rw [if_neg (fun c => by unfold befE at h3; simp only at h3; omega)]
        exact hr
      · obtain ⟨p, h1, h2, rfl⟩ := drop_mem_ge hx
        have h3 := hbig p h1 h2
        obtain ⟨i, j, r, hi, hj, hr, e⟩ := mem_edgesOf.1 (nth_mem h2)
        rw [e] at h3 ⊢
        refine ⟨i, j, r, hi, hj, ?_, rfl⟩
        unfold delT
        rw [if_neg (fun c => by simp only at h3; omega)]
        exact hr
    · rintro ⟨i, j, r, hi, hj, hr, rfl⟩
      unfold delT at hr
      by_cases c : i = a ∧ j = b
      · rw [if_pos c] at hr; cases hr
      · rw [if_neg c] at hr
        have hx : (⟨(i : Int), (j : Int), ofR r⟩ : Edge) ∈ edgesOf n t := mem_edgesOf.2 ⟨i, j, r, hi, hj, hr, rfl⟩
        obtain ⟨p, hp, e⟩ := mem_nth hx
        by_cases d : p < k
        · left
          rw [← e, nth_get hp]
          exact List.mem_take_iff_getElem.2 ⟨p, by omega, rfl⟩
        · right
          have d2 : p ≠ k := fun d2 => by
            rw [← d2, e] at z2 z3
            have z2 : (i : Int) = a := z2
            have z3 : (j : Int) = b := z3
            omega
          rw [← e, nth_get hp]
          exact List.mem_drop_iff_getElem.2 ⟨p - (k + 1), by omega, by congr 1; omega⟩
end Go.Ab.M
end

section
/-
  PLAIN LAW: AN EDGE GOES, BY THE PROGRAM.
-/
namespace Go.Ab.M
open Go.Proofs Go.Ab
set_option linter.unusedVariables false
set_option linter.unusedSimpArgs false

abbrev Ad := Nat × Nat × _root_.Rat
def adT (t : Tab) (x : Ad) : Tab := updT t x.1 x.2.1 ((t x.1 x.2.1).getD 0 + x.2.2)
def accT (t : Tab) (l : List Ad) : Tab := l.foldl adT t
theorem accT_snoc (t : Tab) (l : List Ad) (x : Ad) : accT t (l ++ [x]) = adT (accT t l) x := by unfold accT; rw [List.foldl_append]; rfl
theorem accT_off : ∀ (l : List Ad) (t : Tab) {i k : Nat}, (∀ x, x ∈ l → ¬ (i = x.1 ∧ k = x.2.1)) → accT t l i k = t i k
  | [], t, i, k, _ => rfl
  | x :: l, t, i, k, h => by
    show accT (adT t x) l i k = _
    rw [accT_off l _ fun y hy => h y (by simp [hy])]
    unfold adT updT
    rw [if_neg (h x (by simp))]
/-- pairs apart: nothing is added twice -/
def ApL (l : List Ad) : Prop := l.Pairwise fun x y => ¬ (x.1 = y.1 ∧ x.2.1 = y.2.1)
theorem accT_at {l : List Ad} (h : ApL l) {t : Tab} {p : Nat} (hp : p < l.length) : accT t (l.take p) (nth l p).1 (nth l p).2.1 = t (nth l p).1 (nth l p).2.1 := by
  refine accT_off _ _ fun x hx hc => ?_
  obtain ⟨j, hj, e⟩ := List.getElem_of_mem hx
  rw [List.length_take] at hj
  have := List.pairwise_iff_getElem.1 h j p (by omega) hp (by omega)
  rw [nth_get hp] at hc
  rw [List.getElem_take] at e
  rw [e] at this
  exact this ⟨hc.1.symm, hc.2.symm⟩
theorem accT_sz {s m : Nat} {t : Tab} (ht : szT s t) (hs : 0 < s) {l : List Ad} (h : ApL l) (hl : ∀ x, x ∈ l → szQ m x.2.2) : ∀ p, p ≤ l.length → szT (s + m + 1) (accT t (l.take p)) := fun p => by
  induction p with
  | zero => exact fun _ i k q hq => (ht i k q hq).mono (by omega)
  | succ p ih =>
    intro hp
    have hp' : p < l.length := by omega
    rw [take_nth hp', accT_snoc]
    intro i k q hq
    unfold adT updT at hq
    by_cases c : i = (nth l p).1 ∧ k = (nth l p).2.1
    · rw [if_pos c, accT_at h hp'] at hq
      cases hq
      exact szQ.add (ht.getD hs _ _) (hl _ (nth_mem hp'))
    · rw [if_neg c] at hq
      exact ih (by omega) i k q hq
theorem edgesOf_le {n : Nat} (hn : n ≤ 480) (t : Tab) : (edgesOf n t).length ≤ 230400 := Nat.le_trans (edgesOf_len n t) (nn_le hn)
theorem nth_app0 {α : Type} [Inhabited α] {l m : List α} {x : α} {k : Nat} (h : l.length = k) : nth (l ++ [x] ++ m) k = x := by
  subst h
  simp [nth, List.getD]
theorem set_app0 {α : Type} {l m : List α} {x y : α} {k : Nat} (h : l.length = k) : (l ++ [x] ++ m).set k y = l ++ y :: m := by
  subst h
  simp
theorem set_split {α : Type} (y : α) : ∀ {l : List α} {k : Nat}, k < l.length → l.set k y = l.take k ++ y :: l.drop (k + 1)
  | [], k, h => by simp at h
  | x :: l, 0, h => by simp
  | x :: l, k + 1, h => by simp [set_split y (l := l) (k := k) (by simpa using h)]
/-- what one step of the loop works with -/
theorem one_put {n : Nat} (hn : n ≤ 480) {u : Tab} {x y : Nat} (hx : x < n) (hy : y < n) {z : _root_.Rat} {K : Nat} (hK0 : 0 < K) (hK : K ≤ 1000000) (hu : szT K u) (hz : szQ K z) :
    edge_find (edgesOf n u) (x : Int) (y : Int) = some (((plE (edgesOf n u) x y : Nat) : Int), (u x y).isSome) ∧
    (u x y = none → edges_put (edgesOf n u) [(⟨(x : Int), (y : Int), Rat.mk false [] []⟩ : Edge)] ((plE (edgesOf n u) x y : Nat) : Int) 1 = some ((edgesOf n u).take (plE (edgesOf n u) x y) ++ [(⟨(x : Int), (y : Int), Rat.mk false [] []⟩ : Edge)] ++ (edgesOf n u).drop (plE (edgesOf n u) x y)) ∧
      nth ((edgesOf n u).take (plE (edgesOf n u) x y) ++ [(⟨(x : Int), (y : Int), Rat.mk false [] []⟩ : Edge)] ++ (edgesOf n u).drop (plE (edgesOf n u) x y)) (plE (edgesOf n u) x y) = (⟨(x : Int), (y : Int), Rat.mk false [] []⟩ : Edge) ∧
      plE (edgesOf n u) x y < ((edgesOf n u).take (plE (edgesOf n u) x y) ++ [(⟨(x : Int), (y : Int), Rat.mk false [] []⟩ : Edge)] ++ (edgesOf n u).drop (plE (edgesOf n u) x y)).length ∧
      ratio_Add (Rat.mk false [] []) (ofR z) = some (ofR (0 + z)) ∧
      ((edgesOf n u).take (plE (edgesOf n u) x y) ++ [(⟨(x : Int), (y : Int), Rat.mk false [] []⟩ : Edge)] ++ (edgesOf n u).drop (plE (edgesOf n u) x y)).set (plE (edgesOf n u) x y) (⟨(x : Int), (y : Int), ofR (0 + z)⟩ : Edge) = edgesOf n (adT u (x, y, z))) ∧
    (∀ q, u x y = some q → nth (edgesOf n u) (plE (edgesOf n u) x y) = ⟨(x : Int), (y : Int), ofR q⟩ ∧ plE (edgesOf n u) x y < (edgesOf n u).length ∧ ratio_Add (ofR q) (ofR z) = some (ofR (q + z)) ∧
      (edgesOf n u).set (plE (edgesOf n u) x y) ⟨(x : Int), (y : Int), ofR (q + z)⟩ = edgesOf n (adT u (x, y, z))) := by
  have hs := edgesOf_sorted n u
  have hl := edgesOf_le hn u
  have hk := plE_le (edgesOf n u) (x : Int) (y : Int)
  have hput := fun q => put_is hx hy (t := u) q (m := if (u x y).isSome = true then plE (edgesOf n u) x y + 1 else plE (edgesOf n u) x y) rfl
  have hz' := hasE_at hs (a := (x : Int)) (b := (y : Int))
  rw [has_edgesOf hx hy] at hz'
  have hmem : ∀ q, u x y = some q → nth (edgesOf n u) (plE (edgesOf n u) x y) = ⟨(x : Int), (y : Int), ofR q⟩ ∧ plE (edgesOf n u) x y < (edgesOf n u).length := fun q hq => by
    obtain ⟨z1, z2, z3⟩ := hz'.1 (by rw [hq]; rfl)
    refine ⟨?_, z1⟩
    obtain ⟨i, k, r, hi, hk, hr, e⟩ := mem_edgesOf.1 (nth_mem z1)
    rw [e] at z2 z3 ⊢
    have z2 : (i : Int) = x := z2
    have z3 : (k : Int) = y := z3
    have e1 : i = x := by omega
    have e2 : k = y := by omega
    subst e1; subst e2
    rw [hq] at hr
    cases hr
    rfl
  refine ⟨?_, fun hnone => ?_, fun q hq => ?_⟩
  · rw [find_eq hs (by omega), has_edgesOf hx hy]
  · rw [hnone] at hput
    simp only [Option.isSome_none, Bool.false_eq_true, if_false] at hput
    have ht : ((edgesOf n u).take (plE (edgesOf n u) x y)).length = plE (edgesOf n u) x y := by rw [List.length_take]; omega
    refine ⟨?_, nth_app0 ht, by rw [List.length_append, List.length_append, ht, List.length_singleton]; omega, ?_, ?_⟩
    · have g : (decide ((none : Option Nat).getD 1 = 1) && (decide ([(⟨(x : Int), (y : Int), Rat.mk false [] []⟩ : Edge)].length = 1) && (decide (0 ≤ ((plE (edgesOf n u) x y : Nat) : Int)) && (decide (((plE (edgesOf n u) x y : Nat) : Int) ≤ ((edgesOf n u).length : Int)) && decide ((edgesOf n u).length ≤ 1000000000))))) = true := by
        simp only [Bool.and_eq_true, decide_eq_true_eq]
        exact ⟨rfl, rfl, by omega, by omega, by omega⟩
      unfold edges_put
      rw [g, Int.toNat_natCast]; rfl
    · have z0 : szQ K (0 : _root_.Rat) := (SZ.zero 1 0).sz (Nat.one_lt_pow (by omega) (by decide)) (Nat.pow_pos (by decide)) hK0
      have := ratio_Add_eq (n := K) (x := Rat.mk false [] []) (y := ofR z) ⟨Wds.nil, Wds.nil, Nat.zero_le _, Nat.zero_le _⟩ hz.ok hK0 hK
      rw [qR_ofR] at this
      exact this
    · rw [set_app0 ht, hput]
      unfold adT
      rw [hnone]; rfl
  · obtain ⟨m1, m2⟩ := hmem q hq
    rw [hq] at hput
    simp only [Option.isSome_some, if_true] at hput
    refine ⟨m1, m2, ?_, ?_⟩
    · have := ratio_Add_eq (n := K) (hu x y q hq).ok hz.ok hK0 hK
      rw [qR_ofR, qR_ofR] at this
      exact this
    · rw [set_split _ m2, hput]
      unfold adT
      rw [hq]; rfl
theorem edges_T {g : Graph} {I M O s : Nat} (h : RGr g I M O) (hg : g.Ok s) : g.Edges = edgesOf (I + M + O) g.T := by
  refine edges_uniq h.s (edgesOf_sorted _ _) fun x => ⟨fun hx => ?_, fun hx => ?_⟩
  · have he := h.e x hx
    refine mem_edgesOf.2 ⟨x.From.toNat, x.To.toNat, qR x.W, by omega, by omega, T_mem h hx, ?_⟩
    rw [← W_of h hg hx, Int.toNat_of_nonneg (by omega), Int.toNat_of_nonneg (by omega)]
  · obtain ⟨i, k, q, hi, hk, hq, rfl⟩ := mem_edgesOf.1 hx
    obtain ⟨w, hw, h1, h2, h3⟩ := T_some h hq
    have : w = ⟨(i : Int), (k : Int), ofR q⟩ := by
      rw [← h1, ← h2, ← h3, ← W_of h hg hw]
    rw [← this]; exact hw
end Go.Ab.M
end

section
/-
  PLAIN LAW: AN EDGE GOES, IN FRONT AND BACK, BY THE PROGRAM: as a table.
-/
namespace Go.Ab.M
open Go.Proofs Go.Ab
set_option linter.unusedVariables false
set_option linter.unusedSimpArgs false

def adF (n : Nat) (t : Tab) (a b : Nat) : List Ad := (rowN n t b).map fun k => (a, k, (t a b).getD 0 * (t b k).getD 0)
def adB (n : Nat) (t : Tab) (a b : Nat) : List Ad := (colN n t a).map fun i => (i, b, (t a b).getD 0 * (t i a).getD 0)
theorem adF_ap (n : Nat) (t : Tab) (a b : Nat) : ApL (adF n t a b) := List.pairwise_map.2 ((rowN_nd n t b).imp fun {x y} h => fun c => h c.2)
theorem adB_ap (n : Nat) (t : Tab) (a b : Nat) : ApL (adB n t a b) := List.pairwise_map.2 ((colN_nd n t a).imp fun {x y} h => fun c => h c.1)
theorem adF_sz {s n : Nat} {t : Tab} (h : szT s t) (hs : 0 < s) (a b : Nat) : ∀ x, x ∈ adF n t a b → szQ (s + s) x.2.2 := fun x hx => by
  obtain ⟨k, _, rfl⟩ := List.mem_map.1 hx
  exact (h.getD hs _ _).mul (h.getD hs _ _) hs
theorem adB_sz {s n : Nat} {t : Tab} (h : szT s t) (hs : 0 < s) (a b : Nat) : ∀ x, x ∈ adB n t a b → szQ (s + s) x.2.2 := fun x hx => by
  obtain ⟨k, _, rfl⟩ := List.mem_map.1 hx
  exact (h.getD hs _ _).mul (h.getD hs _ _) hs
theorem delT_sz {s : Nat} {t : Tab} (h : szT s t) (a b : Nat) : szT s (delT t a b) := fun i k q hq => by
  unfold delT at hq
  by_cases c : i = a ∧ k = b
  · rw [if_pos c] at hq; cases hq
  · rw [if_neg c] at hq; exact h i k q hq
section
variable {g : Graph} {I M O s : Nat} (h : RGr g I M O) (hg : g.Ok s) (hs : 0 < s) (hK : 3 * s + 1 ≤ 1000000) {a b : Nat} {c0 : _root_.Rat} (hab : g.T a b = some c0)
include h hg hs hK hab
theorem goesF {x0 : List Int} {idx : Int} (hi : (nth g.Edges idx.toNat).W = ofR c0) :
    edge_goes_l (a : Int) g idx (g.outs (b : Int)) x0 0 (edgesOf (I + M + O) (delT g.T a b)) = some (edgesOf (I + M + O) (accT (delT g.T a b) (adF (I + M + O) g.T a b))) := by
  have i2 := h.i2; have m2 := h.m2; have o2 := h.o2
  have hT := T_sz h hg hs
  have ap := adF_ap (I + M + O) g.T a b
  have asz := adF_sz (n := I + M + O) hT hs a b
  have al : (adF (I + M + O) g.T a b).length = (rowN (I + M + O) g.T b).length := List.length_map _
  have rl := rowN_len (I + M + O) g.T b
  have ol := (nth_map_eq (outs_to h b)).1
  have ha : a < I + M + O := by have := T_lt h hab; omega
  unfold edge_goes_l
  have := loop_run (round := fun σ : Nat × List Edge => edge_goes_l_rd (a : Int) g idx (g.outs (b : Int)) x0 σ.1 σ.2) (fun p => (p, edgesOf (I + M + O) (accT (delT g.T a b) ((adF (I + M + O) g.T a b).take p)))) (adF (I + M + O) g.T a b).length (r := edgesOf (I + M + O) (accT (delT g.T a b) ((adF (I + M + O) g.T a b).take (adF (I + M + O) g.T a b).length))) (fun p hp => ?_) ?_ (by simp only [FU]; omega)
  · rw [List.take_length] at this
    rw [List.take_zero] at this
    exact this
  · have hr : p < (rowN (I + M + O) g.T b).length := by omega
    obtain ⟨b1, b2, b3⟩ := outs_at h hr
    have kb := (mem_rowN.1 (nth_mem hr)).1
    have hn : nth (adF (I + M + O) g.T a b) p = (a, nth (rowN (I + M + O) g.T b) p, c0 * qR (nth (g.outs (b : Int)) p).W) := by
      unfold adF
      rw [nth_mapA hr, hab, b3]; rfl
    have usz := accT_sz (delT_sz hT a b) hs ap asz p (by omega)
    have ez := asz _ (nth_mem hp)
    rw [hn] at ez
    have ez : szQ (s + s) (c0 * qR (nth (g.outs (b : Int)) p).W) := ez
    have hK' : s + (s + s) + 1 ≤ 1000000 := by omega
    obtain ⟨f1, f2, f3⟩ := one_put (n := I + M + O) (by omega) (u := accT (delT g.T a b) ((adF (I + M + O) g.T a b).take p)) (x := a) (y := nth (rowN (I + M + O) g.T b) p) ha kb (z := c0 * qR (nth (g.outs (b : Int)) p).W) (K := s + (s + s) + 1) (by omega) hK' usz (ez.mono (by omega))
    have mul := ratio_Mul_eq (n := s) (x := ofR c0) (y := (nth (g.outs (b : Int)) p).W) (hT a b c0 hab).ok (hg.mem b1) (by omega)
    rw [qR_ofR] at mul
    have e2 : accT (delT g.T a b) ((adF (I + M + O) g.T a b).take (p + 1)) = adT (accT (delT g.T a b) ((adF (I + M + O) g.T a b).take p)) (a, nth (rowN (I + M + O) g.T b) p, c0 * qR (nth (g.outs (b : Int)) p).W) := by
      rw [take_nth hp, accT_snoc, hn]
    show edge_goes_l_rd (a : Int) g idx (g.outs (b : Int)) x0 p (edgesOf (I + M + O) (accT (delT g.T a b) ((adF (I + M + O) g.T a b).take p))) = some (.inl (p + 1, edgesOf (I + M + O) (accT (delT g.T a b) ((adF (I + M + O) g.T a b).take (p + 1)))))
    rw [e2]
    generalize accT (delT g.T a b) ((adF (I + M + O) g.T a b).take p) = u at *
    generalize nth (rowN (I + M + O) g.T b) p = k at *
    have g1 : ((p : Nat) : Int) < ((g.outs (b : Int)).length : Int) := by omega
    have g1' : p < (g.outs (b : Int)).length := by omega
    have e3 : ∀ m : Nat, ((m : Nat) : Int).toNat = m := fun m => Int.toNat_natCast m
    have g2 : ∀ m : Nat, (0 : Int) ≤ ((m : Nat) : Int) := fun m => by omega
    have ii : inK .i64 (((p : Nat) : Int) + 1) = true := inK_i64 (by omega) (by omega)
    cases hu : u a k with
    | none =>
      rw [hu] at f1
      obtain ⟨t1, t2, t3, t4, t5⟩ := f2 hu
      simp only [edge_goes_l_rd, edge_Front_1, decide_eq_true g1, decide_eq_true g1', cond_true, Option.bind_some, b2, f1, Option.isSome_none, Bool.not_false, t1, decide_eq_true (g2 _), e3, decide_eq_true t3, hi, mul, t2, t4, t5, ii]
    | some q =>
      rw [hu] at f1
      obtain ⟨t1, t2, t3, t4⟩ := f3 q hu
      simp only [edge_goes_l_rd, edge_Front_1, decide_eq_true g1, decide_eq_true g1', cond_true, Option.bind_some, b2, f1, Option.isSome_some, Bool.not_true, cond_false, decide_eq_true (g2 _), e3, decide_eq_true t2, hi, mul, t1, t3, t4, ii]
  · have g1 : ¬ (((adF (I + M + O) g.T a b).length : Nat) : Int) < ((g.outs (b : Int)).length : Int) := by omega
    simp only [edge_goes_l_rd, decide_eq_false g1, cond_false]
theorem goesB {x0 : List Int} {idx : Int} (hi : (nth g.Edges idx.toNat).W = ofR c0) :
    edge_goes_l_2 (b : Int) g idx (g.ins (a : Int)) x0 0 (edgesOf (I + M + O) (delT g.T a b)) = some (edgesOf (I + M + O) (accT (delT g.T a b) (adB (I + M + O) g.T a b))) := by
  have i2 := h.i2; have m2 := h.m2; have o2 := h.o2
  have hT := T_sz h hg hs
  have ap := adB_ap (I + M + O) g.T a b
  have asz := adB_sz (n := I + M + O) hT hs a b
  have al : (adB (I + M + O) g.T a b).length = (colN (I + M + O) g.T a).length := List.length_map _
  have rl := colN_len (I + M + O) g.T a
  have ol := (nth_map_eq (ins_from h a)).1
  have hb : b < I + M + O := by have := T_lt h hab; omega
  unfold edge_goes_l_2
  have := loop_run (round := fun σ : Nat × List Edge => edge_goes_l_2_rd (b : Int) g idx (g.ins (a : Int)) x0 σ.1 σ.2) (fun p => (p, edgesOf (I + M + O) (accT (delT g.T a b) ((adB (I + M + O) g.T a b).take p)))) (adB (I + M + O) g.T a b).length (r := edgesOf (I + M + O) (accT (delT g.T a b) ((adB (I + M + O) g.T a b).take (adB (I + M + O) g.T a b).length))) (fun p hp => ?_) ?_ (by simp only [FU]; omega)
  · rw [List.take_length] at this
    rw [List.take_zero] at this
    exact this
  · have hr : p < (colN (I + M + O) g.T a).length := by omega
    obtain ⟨b1, b2, b3⟩ := ins_at h hr
    have kb := (mem_colN.1 (nth_mem hr)).1
    have hn : nth (adB (I + M + O) g.T a b) p = (nth (colN (I + M + O) g.T a) p, b, c0 * qR (nth (g.ins (a : Int)) p).W) := by
      unfold adB
      rw [nth_mapA hr, hab, b3]; rfl
    have usz := accT_sz (delT_sz hT a b) hs ap asz p (by omega)
    have ez := asz _ (nth_mem hp)
    rw [hn] at ez
    have ez : szQ (s + s) (c0 * qR (nth (g.ins (a : Int)) p).W) := ez
    have hK' : s + (s + s) + 1 ≤ 1000000 := by omega
    obtain ⟨f1, f2, f3⟩ := one_put (n := I + M + O) (by omega) (u := accT (delT g.T a b) ((adB (I + M + O) g.T a b).take p)) (x := nth (colN (I + M + O) g.T a) p) (y := b) kb hb (z := c0 * qR (nth (g.ins (a : Int)) p).W) (K := s + (s + s) + 1) (by omega) hK' usz (ez.mono (by omega))
    have mul := ratio_Mul_eq (n := s) (x := ofR c0) (y := (nth (g.ins (a : Int)) p).W) (hT a b c0 hab).ok (hg.mem b1) (by omega)
    rw [qR_ofR] at mul
    have e2 : accT (delT g.T a b) ((adB (I + M + O) g.T a b).take (p + 1)) = adT (accT (delT g.T a b) ((adB (I + M + O) g.T a b).take p)) (nth (colN (I + M + O) g.T a) p, b, c0 * qR (nth (g.ins (a : Int)) p).W) := by
      rw [take_nth hp, accT_snoc, hn]
    show edge_goes_l_2_rd (b : Int) g idx (g.ins (a : Int)) x0 p (edgesOf (I + M + O) (accT (delT g.T a b) ((adB (I + M + O) g.T a b).take p))) = some (.inl (p + 1, edgesOf (I + M + O) (accT (delT g.T a b) ((adB (I + M + O) g.T a b).take (p + 1)))))
    rw [e2]
    generalize accT (delT g.T a b) ((adB (I + M + O) g.T a b).take p) = u at *
    generalize nth (colN (I + M + O) g.T a) p = k at *
    have g1 : ((p : Nat) : Int) < ((g.ins (a : Int)).length : Int) := by omega
    have g1' : p < (g.ins (a : Int)).length := by omega
    have e3 : ∀ m : Nat, ((m : Nat) : Int).toNat = m := fun m => Int.toNat_natCast m
    have g2 : ∀ m : Nat, (0 : Int) ≤ ((m : Nat) : Int) := fun m => by omega
    have ii : inK .i64 (((p : Nat) : Int) + 1) = true := inK_i64 (by omega) (by omega)
    cases hu : u k b with
    | none =>
      rw [hu] at f1
      obtain ⟨t1, t2, t3, t4, t5⟩ := f2 hu
      simp only [edge_goes_l_2_rd, edge_Back_1, decide_eq_true g1, decide_eq_true g1', cond_true, Option.bind_some, b2, f1, Option.isSome_none, Bool.not_false, t1, decide_eq_true (g2 _), e3, decide_eq_true t3, hi, mul, t2, t4, t5, ii]
    | some q =>
      rw [hu] at f1
      obtain ⟨t1, t2, t3, t4⟩ := f3 q hu
      simp only [edge_goes_l_2_rd, edge_Back_1, decide_eq_true g1, decide_eq_true g1', cond_true, Option.bind_some, b2, f1, Option.isSome_some, Bool.not_true, cond_false, decide_eq_true (g2 _), e3, decide_eq_true t2, hi, mul, t1, t3, t4, ii]
  · have g1 : ¬ (((adB (I + M + O) g.T a b).length : Nat) : Int) < ((g.ins (a : Int)).length : Int) := by omega
    simp only [edge_goes_l_2_rd, decide_eq_false g1, cond_false]
end
/-- an edge has gone -/
def goT (n : Nat) (t : Tab) (a b : Nat) (back : Bool) : Tab := accT (delT t a b) (if back = true then adB n t a b else adF n t a b)
def Graph.go (g : Graph) (n a b : Nat) (back : Bool) : Graph := ⟨g.Ins, g.Mids, g.Outs, edgesOf n (goT n g.T a b back), g.Gone⟩
theorem has_T {g : Graph} {I M O s : Nat} (h : RGr g I M O) (hg : g.Ok s) {a b : Int} (hh : hasE g.Edges a b = true) : ∃ (x y : Nat) (q : _root_.Rat), a = (x : Int) ∧ b = (y : Int) ∧ g.T x y = some q ∧ x < I + M ∧ I ≤ y ∧ y < I + M + O ∧ x < y := by
  obtain ⟨e, he, rfl, rfl⟩ := hasE_iff.1 hh
  have h1 := h.e e he
  have h2 := T_mem h he
  have := T_lt h h2
  exact ⟨e.From.toNat, e.To.toNat, _, by omega, by omega, h2, by omega, by omega, by omega, by omega⟩
theorem cut_eq {g : Graph} {I M O s : Nat} (h : RGr g I M O) (hg : g.Ok s) {x y : Nat} {q : _root_.Rat} (hT : g.T x y = some q) :
    plE g.Edges x y < g.Edges.length ∧ (nth g.Edges (plE g.Edges x y)).W = ofR q ∧ g.Edges.take (plE g.Edges x y) ++ g.Edges.drop (plE g.Edges x y + 1) = edgesOf (I + M + O) (delT g.T x y) := by
  have e := edges_T h hg
  have hlt := T_lt h hT
  have hx : x < I + M + O := by omega
  have hy : y < I + M + O := by omega
  have hs := edgesOf_sorted (I + M + O) g.T
  have hz := (hasE_at hs (a := (x : Int)) (b := (y : Int))).1 (by rw [has_edgesOf hx hy, hT]; rfl)
  rw [e]
  refine ⟨hz.1, ?_, cut_is hx hy (by rw [hT]; rfl)⟩
  obtain ⟨i, k, r, hi, hk, hr, e2⟩ := mem_edgesOf.1 (nth_mem hz.1)
  have z2 := hz.2.1
  have z3 := hz.2.2
  rw [e2] at z2 z3 ⊢
  have z2 : (i : Int) = x := z2
  have z3 : (k : Int) = y := z3
  have e1 : i = x := by omega
  have e3 : k = y := by omega
  subst e1; subst e3
  rw [hT] at hr
  cases hr
  rfl
/-- what an edge's going tells -/
def Graph.goR (g : Graph) (n : Nat) (a b : Int) (back : Bool) : Graph × Int × Int :=
  if hasE g.Edges a b = true ∧ g.shape.isMid (if back = true then a else b) = true then (g.go n a.toNat b.toNat back, (((if back = true then colN n g.T a.toNat else rowN n g.T b.toNat).length : Nat) : Int), 0) else (⟨0, 0, 0, [], []⟩, 0, 9)
theorem edge_mid_eq {g : Graph} (h : g.shape.sized = true) (v : Int) : edge_mid g v = some (g.shape.isMid v) := by
  have hs := sized_iff.1 h
  simp only [Graph.shape] at hs
  simp (disch := omega) only [edge_mid, Bool.cond_decide, inK_i64, cond_true, Shape.isMid, Graph.shape, ge_iff_le]
  split
  · rename_i h1; simp [h1]
  · rename_i h1; simp [h1]
theorem rsz {g : Graph} (h : g.right = true) : g.shape.sized = true := by
  simp only [Graph.right, Bool.and_eq_true] at h
  exact h.1.1
theorem Front_eq {g : Graph} {I M O s : Nat} (h : RGr g I M O) (hg : g.Ok s) (hs : 0 < s) (hK : 3 * s + 1 ≤ 1000000) (a b : Int) : edge_Front g a b = some (g.goR (I + M + O) a b false) := by
  have i2 := h.i2; have m2 := h.m2; have o2 := h.o2
  have hr := graph_Right_eq (n := s) (by omega) hg
  rw [h.right] at hr
  have el := hg.e
  have hf := find_eq h.s (by omega) a b
  have hm := edge_mid_eq (rsz h.right) b
  unfold Graph.goR
  simp only [Bool.false_eq_true, if_false]
  cases hh : hasE g.Edges a b with
  | false =>
    rw [hh] at hf
    rw [if_neg (fun c => by cases c.1)]
    simp only [edge_Front, hr, hf, Option.bind_some, Bool.not_true, cond_false, Bool.not_false, cond_true]
  | true =>
    rw [hh] at hf
    cases hmid : g.shape.isMid b with
    | false =>
      rw [hmid] at hm
      rw [if_neg (fun c => by cases c.2)]
      simp only [edge_Front, hr, hf, hm, Option.bind_some, Bool.not_true, cond_false, Bool.not_false, cond_true]
    | true =>
      rw [hmid] at hm
      obtain ⟨x, y, q, rfl, rfl, hT, q1, q2, q3, q4⟩ := has_T h hg hh
      obtain ⟨c1, c2, c3⟩ := cut_eq h hg hT
      have go := goesF h hg hs hK hT (x0 := g.Gone) (idx := ((plE g.Edges x y : Nat) : Int)) (by rw [Int.toNat_natCast]; exact c2)
      have ho := graph_Out_eq (n := s) (by omega) hg (y : Int)
      rw [if_pos h.right] at ho
      have ol := (nth_map_eq (outs_to h y)).1
      have g1 : (0 : Int) ≤ ((plE g.Edges x y : Nat) : Int) := by omega
      have cl : slices_Clone_int_int g.Gone = some g.Gone := by
        have := hg.g
        unfold slices_Clone_int_int
        rw [decide_eq_true (by omega)]; rfl
      have ce : slices_Clone_api_Edge_api_Edge_2 g.Edges = some g.Edges := by
        unfold slices_Clone_api_Edge_api_Edge_2
        rw [decide_eq_true (show 0 < g.Edges.length by omega), decide_eq_true (show 0 + g.Edges.length ≤ 2147483648 by omega)]; rfl
      have cut : edges_cut g.Edges ((plE g.Edges x y : Nat) : Int) (((plE g.Edges x y : Nat) : Int) + 1) = some (edgesOf (I + M + O) (delT g.T x y)) := by
        unfold edges_cut
        have e1 : (((plE g.Edges x y : Nat) : Int) + 1).toNat = plE g.Edges x y + 1 := by omega
        rw [decide_eq_true g1, decide_eq_true (show ((plE g.Edges x y : Nat) : Int) < ((plE g.Edges x y : Nat) : Int) + 1 by omega), decide_eq_true (show ((plE g.Edges x y : Nat) : Int) + 1 ≤ (g.Edges.length : Int) by omega), e1, Int.toNat_natCast, c3]
        rfl
      have ii : inK .i64 (((plE g.Edges x y : Nat) : Int) + 1) = true := inK_i64 (by omega) (by omega)
      rw [if_pos ⟨rfl, rfl⟩]
      simp only [edge_Front, hr, hf, hm, ho, edge_goes, decide_eq_true g1, Int.toNat_natCast, decide_eq_true c1, cl, ce, ii, cut, go, Option.bind_some, Bool.not_true, cond_false, cond_true, ol, Graph.go, goT, Bool.false_eq_true, if_false]
theorem Back_eq {g : Graph} {I M O s : Nat} (h : RGr g I M O) (hg : g.Ok s) (hs : 0 < s) (hK : 3 * s + 1 ≤ 1000000) (a b : Int) : edge_Back g a b = some (g.goR (I + M + O) a b true) := by
  have i2 := h.i2; have m2 := h.m2; have o2 := h.o2
  have hr := graph_Right_eq (n := s) (by omega) hg
  rw [h.right] at hr
  have el := hg.e
  have hf := find_eq h.s (by omega) a b
  have hm := edge_mid_eq (rsz h.right) a
  unfold Graph.goR
  simp only [if_true]
  cases hh : hasE g.Edges a b with
  | false =>
    rw [hh] at hf
    rw [if_neg (fun c => by cases c.1)]
    simp only [edge_Back, hr, hf, Option.bind_some, Bool.not_true, cond_false, Bool.not_false, cond_true]
  | true =>
    rw [hh] at hf
    cases hmid : g.shape.isMid a with
    | false =>
      rw [hmid] at hm
      rw [if_neg (fun c => by cases c.2)]
      simp only [edge_Back, hr, hf, hm, Option.bind_some, Bool.not_true, cond_false, Bool.not_false, cond_true]
    | true =>
      rw [hmid] at hm
      obtain ⟨x, y, q, rfl, rfl, hT, q1, q2, q3, q4⟩ := has_T h hg hh
      obtain ⟨c1, c2, c3⟩ := cut_eq h hg hT
      have go := goesB h hg hs hK hT (x0 := g.Gone) (idx := ((plE g.Edges x y : Nat) : Int)) (by rw [Int.toNat_natCast]; exact c2)
      have ho := graph_In_eq (n := s) (by omega) hg (x : Int)
      rw [if_pos h.right] at ho
      have ol := (nth_map_eq (ins_from h x)).1
      have g1 : (0 : Int) ≤ ((plE g.Edges x y : Nat) : Int) := by omega
      have cl : slices_Clone_int_int g.Gone = some g.Gone := by
        have := hg.g
        unfold slices_Clone_int_int
        rw [decide_eq_true (by omega)]; rfl
      have ce : slices_Clone_api_Edge_api_Edge_2 g.Edges = some g.Edges := by
        unfold slices_Clone_api_Edge_api_Edge_2
        rw [decide_eq_true (show 0 < g.Edges.length by omega), decide_eq_true (show 0 + g.Edges.length ≤ 2147483648 by omega)]; rfl
      have cut : edges_cut g.Edges ((plE g.Edges x y : Nat) : Int) (((plE g.Edges x y : Nat) : Int) + 1) = some (edgesOf (I + M + O) (delT g.T x y)) := by
        unfold edges_cut
        have e1 : (((plE g.Edges x y : Nat) : Int) + 1).toNat = plE g.Edges x y + 1 := by omega
        rw [decide_eq_true g1, decide_eq_true (show ((plE g.Edges x y : Nat) : Int) < ((plE g.Edges x y : Nat) : Int) + 1 by omega), decide_eq_true (show ((plE g.Edges x y : Nat) : Int) + 1 ≤ (g.Edges.length : Int) by omega), e1, Int.toNat_natCast, c3]
        rfl
      have ii : inK .i64 (((plE g.Edges x y : Nat) : Int) + 1) = true := inK_i64 (by omega) (by omega)
      rw [if_pos ⟨rfl, rfl⟩]
      simp only [edge_Back, hr, hf, hm, ho, edge_goes_2, decide_eq_true g1, Int.toNat_natCast, decide_eq_true c1, cl, ce, ii, cut, go, Option.bind_some, Bool.not_true, cond_false, cond_true, ol, Graph.go, goT, if_true]
theorem adF_not {g : Graph} {I M O : Nat} (h : RGr g I M O) {n a b : Nat} : ∀ x, x ∈ adF n g.T a b → ¬ (x.1 = a ∧ x.2.1 = b) := fun x hx c => by
  obtain ⟨k, hk, rfl⟩ := List.mem_map.1 hx
  obtain ⟨w, hw⟩ := Option.isSome_iff_exists.1 (mem_rowN.1 hk).2
  have := T_lt h hw
  have := c.2
  dsimp only at this
  omega
theorem adB_not {g : Graph} {I M O : Nat} (h : RGr g I M O) {n a b : Nat} : ∀ x, x ∈ adB n g.T a b → ¬ (x.1 = a ∧ x.2.1 = b) := fun x hx c => by
  obtain ⟨k, hk, rfl⟩ := List.mem_map.1 hx
  obtain ⟨w, hw⟩ := Option.isSome_iff_exists.1 (mem_colN.1 hk).2
  have := T_lt h hw
  have := c.1
  dsimp only at this
  omega
end Go.Ab.M
end

section
/-
  PLAIN LAW: STEPS OF A VERTEX, BY THE PROGRAM.
-/
namespace Go.Ab.M
open Go.Proofs Go.Ab
set_option linter.unusedVariables false
set_option linter.unusedSimpArgs false

def stF (e : Edge) : Step := Step.mk 1 e.From e.To
def stB (e : Edge) : Step := Step.mk 2 e.From e.To
def Graph.steps (g : Graph) (v : Int) (back : Bool) : List Step := if g.can v = true then (if back = true then (g.outs v).map stB else (g.ins v).map stF) else []
theorem map_step {α β : Type} [Inhabited α] (f : α → β) {l : List α} {i : Nat} (hi : i < l.length) : (l.take (i + 1)).map f = (l.take i).map f ++ [f (nth l i)] := by
  rw [take_nth hi, List.map_append]; rfl
theorem stepsL1 {l : List Edge} (hl : l.length ≤ 100000) : edge_Steps_l l [] 0 = some (l.map stB) := by
  unfold edge_Steps_l
  have := loop_run (round := fun σ : List Step × Nat => edge_Steps_l_rd l σ.1 σ.2) (fun i => ((l.take i).map stB, i)) l.length (r := (l.take l.length).map stB) (fun i hi => ?_) ?_ (by simp only [FU]; omega)
  · rw [List.take_length] at this; exact this
  · have g1 : ((i : Nat) : Int) < (l.length : Int) := by omega
    have g2 : ((l.take i).map stB).length + 1 ≤ 2147483648 := by rw [List.length_map, List.length_take]; omega
    have ii : inK .i64 (((i : Nat) : Int) + 1) = true := inK_i64 (by omega) (by omega)
    show edge_Steps_l_rd l ((l.take i).map stB) i = some (.inl ((l.take (i + 1)).map stB, i + 1))
    rw [map_step stB hi]
    simp only [edge_Steps_l_rd, decide_eq_true g1, decide_eq_true hi, decide_eq_true g2, ii, cond_true, stB]
  · simp only [edge_Steps_l_rd, Int.lt_irrefl, decide_false, cond_false]
theorem stepsL2 {l : List Edge} (hl : l.length ≤ 100000) : edge_Steps_l_2 l [] 0 = some (l.map stF) := by
  unfold edge_Steps_l_2
  have := loop_run (round := fun σ : List Step × Nat => edge_Steps_l_2_rd l σ.1 σ.2) (fun i => ((l.take i).map stF, i)) l.length (r := (l.take l.length).map stF) (fun i hi => ?_) ?_ (by simp only [FU]; omega)
  · rw [List.take_length] at this; exact this
  · have g1 : ((i : Nat) : Int) < (l.length : Int) := by omega
    have g2 : ((l.take i).map stF).length + 1 ≤ 2147483648 := by rw [List.length_map, List.length_take]; omega
    have ii : inK .i64 (((i : Nat) : Int) + 1) = true := inK_i64 (by omega) (by omega)
    show edge_Steps_l_2_rd l ((l.take i).map stF) i = some (.inl ((l.take (i + 1)).map stF, i + 1))
    rw [map_step stF hi]
    simp only [edge_Steps_l_2_rd, decide_eq_true g1, decide_eq_true hi, decide_eq_true g2, ii, cond_true, stF]
  · simp only [edge_Steps_l_2_rd, Int.lt_irrefl, decide_false, cond_false]
theorem Steps_eq {g : Graph} {s : Nat} (hg : g.Ok s) (hs : s ≤ 10000000) (v : Int) (back : Bool) : edge_Steps g v back = some (g.steps v back) := by
  have a := vertex_Can_eq (n := s) hs hg v
  unfold Graph.steps
  cases c : g.can v with
  | false =>
    rw [c] at a
    rw [if_neg (by simp)]
    simp only [edge_Steps, a, Option.bind_some, Bool.not_false, cond_true]
  | true =>
    rw [c] at a
    rw [if_pos rfl]
    have r := (can_iff.1 c).1
    have i1 := graph_In_eq (n := s) hs hg v
    have o1 := graph_Out_eq (n := s) hs hg v
    rw [if_pos r] at i1 o1
    have il := ins_len g v
    have ol := outs_len g v
    have el := hg.e
    cases back with
    | true => simp only [edge_Steps, a, i1, o1, Option.bind_some, Bool.not_true, cond_false, cond_true, stepsL1 (l := g.outs v) (by omega), if_true]
    | false => simp only [edge_Steps, a, i1, Option.bind_some, Bool.not_true, cond_false, stepsL2 (l := g.ins v) (by omega), Bool.false_eq_true, if_false]
end Go.Ab.M
end

section
/-
  PLAIN LAW: WHEN AN EDGE HAS GONE, THE GRAPH IS RIGHT, AND ITS SUMS OVER WAYS ARE WHAT THEY WERE.
-/
namespace Go.Ab.M
open Go.Proofs Go.Ab
set_option linter.unusedVariables false
set_option linter.unusedSimpArgs false

theorem accT_in : ∀ {l : List Ad}, ApL l → ∀ (t : Tab) {x : Ad}, x ∈ l → accT t l x.1 x.2.1 = some ((t x.1 x.2.1).getD 0 + x.2.2)
  | [], _, t, x, h => by cases h
  | y :: l, ha, t, x, h => by
    obtain ⟨h1, h2⟩ := List.pairwise_cons.1 ha
    show accT (adT t y) l x.1 x.2.1 = _
    rcases List.mem_cons.1 h with rfl | h
    · rw [accT_off l _ fun z hz => h1 z hz]
      unfold adT updT
      rw [if_pos ⟨rfl, rfl⟩]
    · rw [accT_in h2 _ h]
      have := h1 x h
      have e : adT t y x.1 x.2.1 = t x.1 x.2.1 := by
        unfold adT updT
        exact if_neg (fun c => this ⟨c.1.symm, c.2.symm⟩)
      rw [e]
section
variable {g : Graph} {I M O s : Nat} (h : RGr g I M O) {a b : Nat} {c0 : _root_.Rat} (hab : g.T a b = some c0) {back : Bool}
include h hab
theorem goT_ab : goT (I + M + O) g.T a b back a b = none := by
  have _ := hab
  unfold goT
  rw [accT_off _ _ fun x hx c => ?_]
  · unfold delT; rw [if_pos ⟨rfl, rfl⟩]
  · cases back with
    | true => exact adB_not h x (by simpa using hx) ⟨c.1.symm, c.2.symm⟩
    | false => exact adF_not h x (by simpa using hx) ⟨c.1.symm, c.2.symm⟩
/-- in front: which edges there are then, and their labels -/
theorem goF_at (i k : Nat) : goT (I + M + O) g.T a b false i k = if i = a ∧ k = b then none else if i = a ∧ (g.T b k).isSome = true then some ((g.T a k).getD 0 + c0 * (g.T b k).getD 0) else g.T i k := by
  unfold goT
  rw [if_neg (by decide)]
  by_cases c1 : i = a ∧ k = b
  · have := goT_ab h hab (back := false)
    unfold goT at this
    rw [if_neg (by decide)] at this
    rw [if_pos c1, c1.1, c1.2, this]
  · rw [if_neg c1]
    by_cases c2 : i = a ∧ (g.T b k).isSome = true
    · rw [if_pos c2]
      obtain ⟨w, hw⟩ := Option.isSome_iff_exists.1 c2.2
      have hk := T_lt h hw
      have hm : (a, k, (g.T a b).getD 0 * (g.T b k).getD 0) ∈ adF (I + M + O) g.T a b := List.mem_map_of_mem (f := fun k => (a, k, (g.T a b).getD 0 * (g.T b k).getD 0)) (mem_rowN.2 ⟨by omega, c2.2⟩)
      have := accT_in (adF_ap (I + M + O) g.T a b) (delT g.T a b) hm
      dsimp only at this
      rw [c2.1, this, hab]
      unfold delT
      rw [if_neg (fun c => by omega)]
      rfl
    · rw [if_neg c2, accT_off _ _ fun x hx c => c2 ?_]
      · unfold delT; rw [if_neg c1]
      · obtain ⟨k', hk', rfl⟩ := List.mem_map.1 hx
        have c1' : i = a := c.1
        have c2' : k = k' := c.2
        exact ⟨c1', by rw [c2']; exact (mem_rowN.1 hk').2⟩
/-- back -/
theorem goB_at (i k : Nat) : goT (I + M + O) g.T a b true i k = if i = a ∧ k = b then none else if k = b ∧ (g.T i a).isSome = true then some ((g.T i b).getD 0 + c0 * (g.T i a).getD 0) else g.T i k := by
  unfold goT
  rw [if_pos rfl]
  by_cases c1 : i = a ∧ k = b
  · have := goT_ab h hab (back := true)
    unfold goT at this
    rw [if_pos rfl] at this
    rw [if_pos c1, c1.1, c1.2, this]
  · rw [if_neg c1]
    by_cases c2 : k = b ∧ (g.T i a).isSome = true
    · rw [if_pos c2]
      obtain ⟨w, hw⟩ := Option.isSome_iff_exists.1 c2.2
      have hk := T_lt h hw
      have hm : (i, b, (g.T a b).getD 0 * (g.T i a).getD 0) ∈ adB (I + M + O) g.T a b := List.mem_map_of_mem (f := fun i => (i, b, (g.T a b).getD 0 * (g.T i a).getD 0)) (mem_colN.2 ⟨by omega, c2.2⟩)
      have := accT_in (adB_ap (I + M + O) g.T a b) (delT g.T a b) hm
      dsimp only at this
      rw [c2.1, this, hab]
      unfold delT
      rw [if_neg (fun c => by omega)]
      rfl
    · rw [if_neg c2, accT_off _ _ fun x hx c => c2 ?_]
      · unfold delT; rw [if_neg c1]
      · obtain ⟨k', hk', rfl⟩ := List.mem_map.1 hx
        have c1' : i = k' := c.1
        have c2' : k = b := c.2
        exact ⟨c2', by rw [c1']; exact (mem_colN.1 hk').2⟩
theorem goT_lt {i k : Nat} {q : _root_.Rat} (hq : goT (I + M + O) g.T a b back i k = some q) : (∃ p, g.T i k = some p) ∨ (∃ m p r, g.T i m = some p ∧ g.T m k = some r) := by
  cases back with
  | false =>
    rw [goF_at h hab] at hq
    split at hq
    · cases hq
    · split at hq
      · rename_i c1 c2
        obtain ⟨w, hw⟩ := Option.isSome_iff_exists.1 c2.2
        exact .inr ⟨b, c0, w, by rw [c2.1]; exact hab, hw⟩
      · exact .inl ⟨q, hq⟩
  | true =>
    rw [goB_at h hab] at hq
    split at hq
    · cases hq
    · split at hq
      · rename_i c1 c2
        obtain ⟨w, hw⟩ := Option.isSome_iff_exists.1 c2.2
        exact .inr ⟨a, w, c0, hw, by rw [c2.1]; exact hab⟩
      · exact .inl ⟨q, hq⟩
theorem goT_lt' {i k : Nat} {q : _root_.Rat} (hq : goT (I + M + O) g.T a b back i k = some q) : i < I + M ∧ I ≤ k ∧ k < I + M + O ∧ i < k := by
  rcases goT_lt h hab hq with ⟨p, hp⟩ | ⟨m, p, r, h1, h2⟩
  · exact T_lt h hp
  · have a1 := T_lt h h1
    have a2 := T_lt h h2
    omega
theorem go_rgr : RGr (g.go (I + M + O) a b back) I M O := by
  refine ⟨h.i, h.m, h.o, h.i1, h.i2, h.m2, h.o1, h.o2, fun w hw => ?_, edgesOf_sorted _ _, fun x hx => ?_, h.gs⟩
  · obtain ⟨i, k, q, hi, hk, hq, rfl⟩ := mem_edgesOf.1 hw
    have := goT_lt' h hab hq
    refine ⟨?_, ?_, ?_, ?_, ?_, isR_ofR q⟩ <;> simp only <;> omega
  · refine ⟨(h.gn x hx).1, (h.gn x hx).2.1, fun w hw => ?_⟩
    obtain ⟨i, k, q, hi, hk, hq, rfl⟩ := mem_edgesOf.1 hw
    rcases goT_lt h hab hq with ⟨p, hp⟩ | ⟨m, p, r, h1, h2⟩
    · exact T_gone h hx hp
    · exact ⟨(T_gone h hx h1).1, (T_gone h hx h2).2⟩
theorem go_T : (g.go (I + M + O) a b back).T = goT (I + M + O) g.T a b back := by
  have hr := go_rgr h hab (back := back)
  funext i k
  cases hq : goT (I + M + O) g.T a b back i k with
  | some q =>
    have hlt := goT_lt' h hab hq
    have hw : Edge.mk (i : Int) (k : Int) (ofR q) ∈ (g.go (I + M + O) a b back).Edges := mem_edgesOf.2 ⟨i, k, q, by omega, by omega, hq, rfl⟩
    have := T_mem hr hw
    simp only [Int.toNat_natCast, qR_ofR] at this
    exact this
  | none =>
    refine tabL_none fun e he hik => ?_
    obtain ⟨w, hw, rfl⟩ := List.mem_map.1 he
    obtain ⟨i', k', q, _, _, hq', rfl⟩ := mem_edgesOf.1 hw
    simp only [Edge.pe, Int.toNat_natCast] at hik
    rw [hik.1, hik.2, hq] at hq'
    cases hq'
end
end Go.Ab.M
end

section
/-
  PLAIN LAW: AN EDGE THAT GOES BY A STEP; counting.
-/
namespace Go.Ab.M
open Go.Proofs Go.Ab
set_option linter.unusedVariables false
set_option linter.unusedSimpArgs false

theorem gone_eq {g : Graph} {I M O s : Nat} (h : RGr g I M O) (hg : g.Ok s) (hs : 0 < s) (hK : 3 * s + 1 ≤ 1000000) (a b : Int) (back : Bool) : law19_gone g (Step.mk (if back = true then 2 else 1) a b) = some (g.goR (I + M + O) a b back) := by
  cases back with
  | true =>
    have := Back_eq h hg hs hK a b
    have z : (((2 : Int)) == 2) = true := rfl
    simp only [law19_gone, if_true, z, cond_true, this, Option.bind_some]
  | false =>
    have := Front_eq h hg hs hK a b
    have z : (((1 : Int)) == 2) = false := rfl
    simp only [law19_gone, Bool.false_eq_true, if_false, z, cond_false, this, Option.bind_some]
theorem awake19 : law19_awake = some true := by kernel_rfl
end Go.Ab.M
end

section
/-
  PLAIN LAW: EDGES OF ONE VERTEX GO, ONE BEHIND THE OTHER.
-/
namespace Go.Ab.M
open Go.Proofs Go.Ab
set_option linter.unusedVariables false
set_option linter.unusedSimpArgs false

/-- those in front of v, of which P tells which have gone -/
def paF (t : Tab) (v : Nat) (P : Nat → Bool) : Tab := fun i k => if P i = true ∧ (t i v).isSome = true then (if k = v then none else if (t v k).isSome = true then some ((t i k).getD 0 + (t i v).getD 0 * (t v k).getD 0) else t i k) else t i k
def paB (t : Tab) (v : Nat) (P : Nat → Bool) : Tab := fun i k => if P k = true ∧ (t v k).isSome = true then (if i = v then none else if (t i v).isSome = true then some ((t i k).getD 0 + (t i v).getD 0 * (t v k).getD 0) else t i k) else t i k
def paX (back : Bool) : Tab → Nat → (Nat → Bool) → Tab := if back = true then paB else paF
theorem paX_sz {s : Nat} {t : Tab} (h : szT s t) (hs : 0 < s) (v : Nat) (P : Nat → Bool) (back : Bool) : szT (3 * s + 1) (paX back t v P) := fun i k q hq => by
  have key : ∀ q, (if (t v k).isSome = true then some ((t i k).getD 0 + (t i v).getD 0 * (t v k).getD 0) else t i k) = some q ∨ (if (t i v).isSome = true then some ((t i k).getD 0 + (t i v).getD 0 * (t v k).getD 0) else t i k) = some q → szQ (3 * s + 1) q := fun q hq => by
    have big : szQ (3 * s + 1) ((t i k).getD 0 + (t i v).getD 0 * (t v k).getD 0) := (szQ.add (h.getD hs i k) ((h.getD hs i v).mul (h.getD hs v k) hs)).mono (by omega)
    rcases hq with hq | hq <;> split at hq
    · cases hq; exact big
    · exact (h i k q hq).mono (by omega)
    · cases hq; exact big
    · exact (h i k q hq).mono (by omega)
  cases back with
  | true =>
    simp only [paX, if_true] at hq
    unfold paB at hq
    split at hq
    · split at hq
      · cases hq
      · exact key q (.inr hq)
    · exact (h i k q hq).mono (by omega)
  | false =>
    simp only [paX, Bool.false_eq_true, if_false] at hq
    unfold paF at hq
    split at hq
    · split at hq
      · cases hq
      · exact key q (.inl hq)
    · exact (h i k q hq).mono (by omega)
/-- what is so while edges of v go -/
structure Pg (g h : Graph) (I M O v : Nat) (back : Bool) (P : Nat → Bool) : Prop where
  r : RGr h I M O
  t : ∀ i k, h.T i k = paX back g.T v P i k
  ok : h.Ok 4
  gn : h.Gone = g.Gone
section
variable {g h : Graph} {I M O v : Nat} (hg : RGr g I M O) (ok : g.Ok 1) (hn : I + M + O ≤ 300) (hv : I ≤ v) (hv2 : v < I + M)
include hg hv hv2
theorem vv : g.T v v = none := by
  have _ := hv
  have _ := hv2
  cases hq : g.T v v with
  | none => rfl
  | some q => have := T_lt hg hq; omega
include ok hn
theorem pgF {P : Nat → Bool} (hp : Pg g h I M O v false P) {a : Nat} (ha : (g.T a v).isSome = true) (hP : P a = false) :
    h.goR (I + M + O) (a : Int) (v : Int) false = (h.go (I + M + O) a v false, (((rowN (I + M + O) g.T v).length : Nat) : Int), 0) ∧ Pg g (h.go (I + M + O) a v false) I M O v false (fun x => P x || decide (x = a)) := by
  have hvv := vv hg hv hv2
  obtain ⟨w, hw⟩ := Option.isSome_iff_exists.1 ha
  have hlt := T_lt hg hw
  have row : ∀ k, h.T v k = g.T v k := fun k => by
    rw [hp.t]
    show paF g.T v P v k = _
    unfold paF
    rw [if_neg (fun c => by have := c.2; rw [hvv] at this; cases this)]
  have hav : h.T a v = some w := by
    rw [hp.t]
    show paF g.T v P a v = _
    unfold paF
    rw [if_neg (fun c => by rw [hP] at c; cases c.1), hw]
  have hE : hasE h.Edges (a : Int) (v : Int) = true := by
    rw [edges_T hp.r hp.ok, has_edgesOf (by omega) (by omega), hav]; rfl
  have hm : h.shape.isMid (v : Int) = true := by
    unfold Shape.isMid
    rw [Bool.and_eq_true, decide_eq_true_eq, decide_eq_true_eq]
    simp only [Graph.shape, hp.r.i, hp.r.m]
    omega
  have er : rowN (I + M + O) h.T v = rowN (I + M + O) g.T v := by
    unfold rowN
    exact List.filter_congr fun k _ => by rw [row]
  have hT := go_T hp.r hav (back := false)
  have ht : ∀ i k, (h.go (I + M + O) a v false).T i k = paX false g.T v (fun x => P x || decide (x = a)) i k := fun i k => by
    rw [hT, goF_at hp.r hav]
    show _ = paF g.T v (fun x => P x || decide (x = a)) i k
    unfold paF
    by_cases c1 : i = a
    · subst c1
      rw [if_pos (show (P i || decide (i = i)) = true ∧ (g.T i v).isSome = true from ⟨by simp, ha⟩)]
      by_cases c2 : k = v
      · rw [if_pos ⟨rfl, c2⟩, if_pos c2]
      · have e1 : h.T i k = g.T i k := by
          rw [hp.t]
          show paF g.T v P i k = _
          unfold paF
          rw [if_neg (fun c => by rw [hP] at c; cases c.1)]
        rw [if_neg (fun c => c2 c.2), if_neg c2, row, e1, hw]
        by_cases c3 : (g.T v k).isSome = true
        · rw [if_pos ⟨rfl, c3⟩, if_pos c3]; rfl
        · rw [if_neg (fun c => c3 c.2), if_neg c3]
    · rw [if_neg (fun c => c1 c.1), if_neg (fun c => c1 c.1), hp.t]
      show paF g.T v P i k = _
      unfold paF
      have e : (P i || decide (i = a)) = P i := by rw [decide_eq_false c1, Bool.or_false]
      by_cases d : P i = true ∧ (g.T i v).isSome = true
      · rw [if_pos d, if_pos (show (P i || decide (i = a)) = true ∧ (g.T i v).isSome = true from ⟨by rw [e]; exact d.1, d.2⟩)]
      · rw [if_neg d, if_neg (show ¬ ((P i || decide (i = a)) = true ∧ (g.T i v).isSome = true) from fun c => d ⟨by rw [← e]; exact c.1, c.2⟩)]
  refine ⟨?_, go_rgr hp.r hav, ht, ⟨fun i hi => ?_, ?_, by show h.Gone.length ≤ _; exact hp.ok.g⟩, hp.gn⟩
  · unfold Graph.goR
    simp only [Bool.false_eq_true, if_false]
    rw [if_pos ⟨hE, hm⟩, Int.toNat_natCast, Int.toNat_natCast, er]
  · have sz : szT 4 (goT (I + M + O) h.T a v false) := fun i k q hq => by
      rw [← hT, ht] at hq
      exact paX_sz (T_sz hg ok (by decide)) (by decide) v _ false i k q hq
    exact edgesOf_sz sz _ (nth_mem hi)
  · exact Nat.le_trans (edgesOf_len _ _) (Nat.le_trans (Nat.mul_le_mul hn hn) (by decide))
theorem pgB {P : Nat → Bool} (hp : Pg g h I M O v true P) {b : Nat} (hb : (g.T v b).isSome = true) (hP : P b = false) :
    h.goR (I + M + O) (v : Int) (b : Int) true = (h.go (I + M + O) v b true, (((colN (I + M + O) g.T v).length : Nat) : Int), 0) ∧ Pg g (h.go (I + M + O) v b true) I M O v true (fun x => P x || decide (x = b)) := by
  have hvv := vv hg hv hv2
  obtain ⟨w, hw⟩ := Option.isSome_iff_exists.1 hb
  have hlt := T_lt hg hw
  have col : ∀ i, h.T i v = g.T i v := fun i => by
    rw [hp.t]
    show paB g.T v P i v = _
    unfold paB
    rw [if_neg (fun c => by have := c.2; rw [hvv] at this; cases this)]
  have hvb : h.T v b = some w := by
    rw [hp.t]
    show paB g.T v P v b = _
    unfold paB
    rw [if_neg (fun c => by rw [hP] at c; cases c.1), hw]
  have hE : hasE h.Edges (v : Int) (b : Int) = true := by
    rw [edges_T hp.r hp.ok, has_edgesOf (by omega) (by omega), hvb]; rfl
  have hm : h.shape.isMid (v : Int) = true := by
    unfold Shape.isMid
    rw [Bool.and_eq_true, decide_eq_true_eq, decide_eq_true_eq]
    simp only [Graph.shape, hp.r.i, hp.r.m]
    omega
  have er : colN (I + M + O) h.T v = colN (I + M + O) g.T v := by
    unfold colN
    exact List.filter_congr fun k _ => by rw [col]
  have hT := go_T hp.r hvb (back := true)
  have ht : ∀ i k, (h.go (I + M + O) v b true).T i k = paX true g.T v (fun x => P x || decide (x = b)) i k := fun i k => by
    rw [hT, goB_at hp.r hvb]
    show _ = paB g.T v (fun x => P x || decide (x = b)) i k
    unfold paB
    by_cases c1 : k = b
    · subst c1
      rw [if_pos (show (P k || decide (k = k)) = true ∧ (g.T v k).isSome = true from ⟨by simp, hb⟩)]
      by_cases c2 : i = v
      · rw [if_pos ⟨c2, rfl⟩, if_pos c2]
      · have e1 : h.T i k = g.T i k := by
          rw [hp.t]
          show paB g.T v P i k = _
          unfold paB
          rw [if_neg (fun c => by rw [hP] at c; cases c.1)]
        rw [if_neg (fun c => c2 c.1), if_neg c2, col, e1, hw]
        by_cases c3 : (g.T i v).isSome = true
        · rw [if_pos ⟨rfl, c3⟩, if_pos c3, Rat.mul_comm]; rfl
        · rw [if_neg (fun c => c3 c.2), if_neg c3]
    · rw [if_neg (fun c => c1 c.2), if_neg (fun c => c1 c.1), hp.t]
      show paB g.T v P i k = _
      unfold paB
      have e : (P k || decide (k = b)) = P k := by rw [decide_eq_false c1, Bool.or_false]
      by_cases d : P k = true ∧ (g.T v k).isSome = true
      · rw [if_pos d, if_pos (show (P k || decide (k = b)) = true ∧ (g.T v k).isSome = true from ⟨by rw [e]; exact d.1, d.2⟩)]
      · rw [if_neg d, if_neg (show ¬ ((P k || decide (k = b)) = true ∧ (g.T v k).isSome = true) from fun c => d ⟨by rw [← e]; exact c.1, c.2⟩)]
  refine ⟨?_, go_rgr hp.r hvb, ht, ⟨fun i hi => ?_, ?_, by show h.Gone.length ≤ _; exact hp.ok.g⟩, hp.gn⟩
  · unfold Graph.goR
    simp only [if_true]
    rw [if_pos ⟨hE, hm⟩, Int.toNat_natCast, Int.toNat_natCast, er]
  · have sz : szT 4 (goT (I + M + O) h.T v b true) := fun i k q hq => by
      rw [← hT, ht] at hq
      exact paX_sz (T_sz hg ok (by decide)) (by decide) v _ true i k q hq
    exact edgesOf_sz sz _ (nth_mem hi)
  · exact Nat.le_trans (edgesOf_len _ _) (Nat.le_trans (Nat.mul_le_mul hn hn) (by decide))
end
/-- one of the steps goes -/
def others (back : Bool) (n : Nat) (t : Tab) (v : Nat) : List Nat := if back = true then rowN n t v else colN n t v
def stOf (back : Bool) (v a : Nat) : Step := if back = true then Step.mk 2 (v : Int) (a : Int) else Step.mk 1 (a : Int) (v : Int)
def goOf (h : Graph) (n v a : Nat) (back : Bool) : Graph := if back = true then h.go n v a true else h.go n a v false
def otherSide (back : Bool) (n : Nat) (t : Tab) (v : Nat) : List Nat := if back = true then colN n t v else rowN n t v
theorem pg_step {g h : Graph} {I M O v : Nat} (hg : RGr g I M O) (ok : g.Ok 1) (hn : I + M + O ≤ 300) (hv : I ≤ v) (hv2 : v < I + M) {back : Bool} {P : Nat → Bool} (hp : Pg g h I M O v back P) {a : Nat} (ha : a ∈ others back (I + M + O) g.T v) (hP : P a = false) :
    law19_gone h (stOf back v a) = some (goOf h (I + M + O) v a back, (((otherSide back (I + M + O) g.T v).length : Nat) : Int), 0) ∧ Pg g (goOf h (I + M + O) v a back) I M O v back (fun x => P x || decide (x = a)) := by
  cases back with
  | true =>
    have ha : a ∈ rowN (I + M + O) g.T v := ha
    obtain ⟨h1, h2⟩ := pgB hg ok hn hv hv2 hp (mem_rowN.1 ha).2 hP
    have e := gone_eq hp.r hp.ok (by decide) (by decide) (v : Int) (a : Int) true
    rw [h1] at e
    exact ⟨e, h2⟩
  | false =>
    have ha : a ∈ colN (I + M + O) g.T v := ha
    obtain ⟨h1, h2⟩ := pgF hg ok hn hv hv2 hp (mem_colN.1 ha).2 hP
    have e := gone_eq hp.r hp.ok (by decide) (by decide) (a : Int) (v : Int) false
    rw [h1] at e
    exact ⟨e, h2⟩
end Go.Ab.M
end

section
/-
  PLAIN LAW: WITH ALL EDGES IN FRONT OF A VERTEX GONE, IN WHATEVER ORDER, ALL IS AS IF IT HAD BEEN ELIMINATED, but for its edges on the other side; likewise back.
-/
namespace Go.Ab.M
open Go.Proofs Go.Ab
set_option linter.unusedVariables false
set_option linter.unusedSimpArgs false

def eraN (r : List Nat) (k : Nat) : List Nat := r.take k ++ r.drop (k + 1)
theorem split_at {r : List Nat} {k : Nat} (h : k < r.length) : r = r.take k ++ nth r k :: r.drop (k + 1) := by
  have := set_split (nth r k) h
  rw [← this, nth_get h, List.set_getElem_self]
theorem eraN_len {r : List Nat} {k : Nat} (h : k < r.length) : (eraN r k).length = r.length - 1 := by
  unfold eraN
  rw [List.length_append, List.length_take, List.length_drop]; omega
theorem eraN_mem {r : List Nat} (hr : r.Nodup) {k : Nat} (h : k < r.length) {x : Nat} : x ∈ eraN r k ↔ x ∈ r ∧ x ≠ nth r k := by
  have e := split_at h
  have hd : (r.take k ++ nth r k :: r.drop (k + 1)).Nodup := by rw [← e]; exact hr
  obtain ⟨d1, d2, d3⟩ := List.nodup_append.1 hd
  obtain ⟨d4, d5⟩ := List.nodup_cons.1 d2
  have em : x ∈ r ↔ x ∈ r.take k ∨ x = nth r k ∨ x ∈ r.drop (k + 1) := by
    conv => lhs; rw [e]
    rw [List.mem_append, List.mem_cons]
  unfold eraN
  rw [List.mem_append, em]
  constructor
  · rintro (hx | hx)
    · exact ⟨.inl hx, fun c => d3 x hx (nth r k) (by simp) c⟩
    · exact ⟨.inr (.inr hx), fun c => d4 (by rw [← c]; exact hx)⟩
  · rintro ⟨hx | hx | hx, hne⟩
    · exact .inl hx
    · exact absurd hx hne
    · exact .inr hx
theorem eraN_nd {r : List Nat} (hr : r.Nodup) {k : Nat} (h : k < r.length) : (eraN r k).Nodup := by
  have e := split_at h
  have hd : (r.take k ++ nth r k :: r.drop (k + 1)).Nodup := by rw [← e]; exact hr
  obtain ⟨d1, d2, d3⟩ := List.nodup_append.1 hd
  exact List.nodup_append.2 ⟨d1, (List.nodup_cons.1 d2).2, fun x hx y hy => d3 x hx y (by simp [hy])⟩
theorem steps_is {g : Graph} {I M O v : Nat} (h : RGr g I M O) (back : Bool) (hc : g.can (v : Int) = true) : g.steps (v : Int) back = (others back (I + M + O) g.T v).map (stOf back v) := by
  unfold Graph.steps
  rw [if_pos hc]
  cases back with
  | true =>
    show (g.outs (v : Int)).map stB = (rowN (I + M + O) g.T v).map (stOf true v)
    have e := outs_to h v
    have e1 : (g.outs (v : Int)).map stB = ((g.outs (v : Int)).map (·.To)).map fun z => Step.mk 2 (v : Int) z := by
      rw [List.map_map]
      refine List.map_congr_left fun w hw => ?_
      have := (gmem_outs hw).2
      show Step.mk 2 w.From w.To = Step.mk 2 (v : Int) w.To
      rw [this]
    rw [e1, e, List.map_map]
    rfl
  | false =>
    show (g.ins (v : Int)).map stF = (colN (I + M + O) g.T v).map (stOf false v)
    have e := ins_from h v
    have e1 : (g.ins (v : Int)).map stF = ((g.ins (v : Int)).map (·.From)).map fun z => Step.mk 1 z (v : Int) := by
      rw [List.map_map]
      refine List.map_congr_left fun w hw => ?_
      have := (gmem_ins hw).2
      show Step.mk 1 w.From w.To = Step.mk 1 w.From (v : Int)
      rw [this]
    rw [e1, e, List.map_map]
    rfl
theorem nth_mapS {r : List Nat} {f : Nat → Step} {k : Nat} (h : k < r.length) : nth (r.map f) k = f (nth r k) := nth_mapA h
section
variable {g : Graph} {I M O v : Nat} (hg : RGr g I M O) (ok : g.Ok 1) (hn : I + M + O ≤ 300) (hv : I ≤ v) (hv2 : v < I + M) (back : Bool)
include hg ok hn hv hv2
theorem vertex_loop {a3 : Int} {keys : List Int} (hk : ∀ z, z ∈ keys → 0 ≤ z ∧ z ≤ 255) (hkl : keys.length ≤ 9223372036854775807) (x0 : Bool) :
    ∃ (x4 : Int × Int × Int × Int × List Edge × List Int) (P : Nat → Bool), law19_EdgeVertex_l a3 back keys x0 g ((others back (I + M + O) g.T v).map (stOf back v)) 0 0 g.Ins g.Mids g.Outs g.Edges g.Gone = some (.inr x4) ∧
      x4.1 = (((others back (I + M + O) g.T v).length : Nat) : Int) * (((otherSide back (I + M + O) g.T v).length : Nat) : Int) ∧ Pg g (Graph.mk x4.2.1 x4.2.2.1 x4.2.2.2.1 x4.2.2.2.2.1 x4.2.2.2.2.2) I M O v back P ∧ ∀ a, a ∈ others back (I + M + O) g.T v → P a = true := by
  have ol : (others back (I + M + O) g.T v).length ≤ I + M + O := by
    unfold others; split
    · exact rowN_len _ _ _
    · exact colN_len _ _ _
  have sl : (otherSide back (I + M + O) g.T v).length ≤ I + M + O := by
    unfold otherSide; split
    · exact colN_len _ _ _
    · exact rowN_len _ _ _
  have nd : (others back (I + M + O) g.T v).Nodup := by
    unfold others; split
    · exact rowN_nd _ _ _
    · exact colN_nd _ _ _
  generalize hA : others back (I + M + O) g.T v = A at *
  generalize hB : (otherSide back (I + M + O) g.T v).length = B at *
  unfold law19_EdgeVertex_l
  have key := loop_inv (round := fun σ : List Step × Int × Nat × Int × Int × Int × List Edge × List Int => law19_EdgeVertex_l_rd a3 back keys x0 g σ.1 σ.2.1 σ.2.2.1 σ.2.2.2.1 σ.2.2.2.2.1 σ.2.2.2.2.2.1 σ.2.2.2.2.2.2.1 σ.2.2.2.2.2.2.2)
    (Q := fun y : Unit ⊕ (Int × Int × Int × Int × List Edge × List Int) => ∃ (x4 : Int × Int × Int × Int × List Edge × List Int) (P : Nat → Bool), y = .inr x4 ∧ x4.1 = ((A.length : Nat) : Int) * ((B : Nat) : Int) ∧ Pg g (Graph.mk x4.2.1 x4.2.2.1 x4.2.2.2.1 x4.2.2.2.2.1 x4.2.2.2.2.2) I M O v back P ∧ ∀ a, a ∈ A → P a = true)
    (fun j σ => ∃ (r : List Nat) (P : Nat → Bool) (h : Graph), σ = (r.map (stOf back v), ((j * B : Nat) : Int), j, h.Ins, h.Mids, h.Outs, h.Edges, h.Gone) ∧ r.Nodup ∧ r.length + j = A.length ∧ (∀ a, a ∈ r → a ∈ A ∧ P a = false) ∧ (∀ a, a ∈ A → a ∉ r → P a = true) ∧ Pg g h I M O v back P) A.length
    (A.map (stOf back v), 0, 0, g.Ins, g.Mids, g.Outs, g.Edges, g.Gone) ⟨A, fun _ => false, g, by simp, nd, rfl, fun a ha => ⟨ha, rfl⟩, fun a h1 h2 => absurd h1 h2, ⟨hg, fun i k => by
      cases back with
      | true => show g.T i k = paB g.T v (fun _ => false) i k; unfold paB; rw [if_neg (fun c => by cases c.1)]
      | false => show g.T i k = paF g.T v (fun _ => false) i k; unfold paF; rw [if_neg (fun c => by cases c.1)], ⟨fun i hi => (ok.w i hi).mono (by decide), ok.e, ok.g⟩, rfl⟩⟩ ?_ ?_ (by simp only [FU]; omega)
  · obtain ⟨y, k1, x4, P, rfl, k2, k3, k4⟩ := key
    exact ⟨x4, P, k1, k2, k3, k4⟩
  · rintro j σ hj ⟨r, P, h, rfl, rn, rl, rm, rP, hp⟩
    have hr0 : 0 < r.length := by omega
    have g0 : (((r.map (stOf back v)).length : Nat) : Int) > 0 := by rw [List.length_map]; omega
    have ml : (r.map (stOf back v)).length = r.length := List.length_map _
    have jB : j * B ≤ 300 * 300 := Nat.mul_le_mul (by omega) (by omega)
    have z0 : ((0 : Int) != 0) = false := rfl
    have iB : inK .i64 (((j * B : Nat) : Int) + ((B : Nat) : Int)) = true := inK_i64 (by omega) (by omega)
    have eB : ((j * B : Nat) : Int) + ((B : Nat) : Int) = (((j + 1) * B : Nat) : Int) := by rw [Nat.succ_mul]; omega
    rw [eB] at iB
    have ij : inK .i64 (((j : Nat) : Int) + 1) = true := inK_i64 (by omega) (by omega)
    have hh : Graph.mk h.Ins h.Mids h.Outs h.Edges h.Gone = h := rfl
    -- a step that is picked
    have pick : ∀ k, k < r.length → law19_gone h (nth (r.map (stOf back v)) k) = some (goOf h (I + M + O) v (nth r k) back, ((B : Nat) : Int), 0) ∧ Pg g (goOf h (I + M + O) v (nth r k) back) I M O v back (fun x => P x || decide (x = nth r k)) := fun k hk => by
      rw [nth_mapS hk]
      obtain ⟨m1, m2⟩ := rm _ (nth_mem hk)
      have := pg_step hg ok hn hv hv2 hp (a := nth r k) (by rw [hA]; exact m1) m2
      rw [hB] at this
      exact this
    have after : ∀ k, k < r.length → ([] ++ (r.map (stOf back v)).take k) ++ (r.map (stOf back v)).drop (k + 1) = (eraN r k).map (stOf back v) := fun k hk => by
      unfold eraN
      rw [List.nil_append, List.map_append, List.map_take, List.map_drop]
    have inv : ∀ k, k < r.length → ∃ (r' : List Nat) (P' : Nat → Bool) (h' : Graph), ((eraN r k).map (stOf back v), (((j + 1) * B : Nat) : Int), j + 1, (goOf h (I + M + O) v (nth r k) back).Ins, (goOf h (I + M + O) v (nth r k) back).Mids, (goOf h (I + M + O) v (nth r k) back).Outs, (goOf h (I + M + O) v (nth r k) back).Edges, (goOf h (I + M + O) v (nth r k) back).Gone) = (r'.map (stOf back v), (((j + 1) * B : Nat) : Int), j + 1, h'.Ins, h'.Mids, h'.Outs, h'.Edges, h'.Gone) ∧ r'.Nodup ∧ r'.length + (j + 1) = A.length ∧ (∀ a, a ∈ r' → a ∈ A ∧ P' a = false) ∧ (∀ a, a ∈ A → a ∉ r' → P' a = true) ∧ Pg g h' I M O v back P' := fun k hk => by
      refine ⟨eraN r k, _, _, rfl, eraN_nd rn hk, by rw [eraN_len hk]; omega, fun a ha => ?_, fun a ha hna => ?_, (pick k hk).2⟩
      · obtain ⟨m1, m2⟩ := (eraN_mem rn hk).1 ha
        refine ⟨(rm a m1).1, ?_⟩
        show (P a || decide (a = nth r k)) = false
        rw [(rm a m1).2, decide_eq_false m2]; rfl
      · show (P a || decide (a = nth r k)) = true
        by_cases c : a = nth r k
        · rw [decide_eq_true c, Bool.or_true]
        · rw [rP a ha (fun m => hna ((eraN_mem rn hk).2 ⟨m, c⟩))]; rfl
    by_cases c : j < keys.length
    · have c' : ((j : Nat) : Int) < ((keys.length : Nat) : Int) := by omega
      obtain ⟨k0, k1⟩ := hk _ (nth_mem c)
      have hm := Int.emod_nonneg (nth keys j) (show ((r.length : Nat) : Int) ≠ 0 by omega)
      have hl := Int.emod_lt_of_pos (nth keys j) (show (0 : Int) < ((r.length : Nat) : Int) by omega)
      have ik : inK .i64 (nth keys j) = true := inK_i64 (by omega) (by omega)
      have hat : (nth keys j % ((r.length : Nat) : Int)).toNat < r.length := by omega
      obtain ⟨p1, p2⟩ := pick _ hat
      have e1 : (nth keys j % ((r.length : Nat) : Int) + 1).toNat = (nth keys j % ((r.length : Nat) : Int)).toNat + 1 := by omega
      have af := after _ hat
      have iv := inv _ hat
      obtain ⟨at_, hat_⟩ : ∃ at_, nth keys j % ((r.length : Nat) : Int) = at_ := ⟨_, rfl⟩
      rw [hat_] at hm hl hat p1 e1 af iv
      refine ⟨_, ?_, iv⟩
      have i1 : inK .i64 (at_ + 1) = true := inK_i64 (by omega) (by omega)
      have f1 : (0 : Int) < ((r.length : Nat) : Int) := by omega
      have f2 : 0 ≤ at_.toNat := Nat.zero_le _
      have f3 : at_.toNat ≤ r.length := by omega
      have f4 : 0 + ((r.map (stOf back v)).take at_.toNat).length ≤ 2147483648 := by rw [List.length_take, ml]; omega
      have f5 : 0 ≤ at_ + 1 := by omega
      have f6 : at_.toNat + 1 ≤ r.length := by omega
      have f7 : ([] ++ (r.map (stOf back v)).take at_.toNat).length + ((r.map (stOf back v)).drop (at_.toNat + 1)).length ≤ 2147483648 := by rw [List.nil_append, List.length_take, List.length_drop, ml]; omega
      simp only [law19_EdgeVertex_l_rd, Bool.cond_decide, ml, if_pos (show ((r.length : Nat) : Int) > 0 by omega), if_pos c', if_pos c, ik, if_pos k0, if_pos f1, hat_, if_pos hm, if_pos hat, hh, p1, Option.bind_some, z0, cond_true, cond_false, iB, if_pos f2, if_pos f3, if_pos f4, i1, if_pos f5, e1, if_pos f6, Nat.le_refl, if_true, if_pos f7, ij, af, eB]
    · have c' : ¬ ((j : Nat) : Int) < ((keys.length : Nat) : Int) := by omega
      obtain ⟨p1, p2⟩ := pick 0 hr0
      have af := after 0 hr0
      have iv := inv 0 hr0
      refine ⟨_, ?_, iv⟩
      have i1 : inK .i64 ((0 : Int) + 1) = true := by decide
      have f3 : 0 ≤ r.length := Nat.zero_le _
      have f4 : 0 + ((r.map (stOf back v)).take 0).length ≤ 2147483648 := by rw [List.length_take, ml]; omega
      have f6 : 1 ≤ r.length := by omega
      have f7 : ([] ++ (r.map (stOf back v)).take 0).length + ((r.map (stOf back v)).drop 1).length ≤ 2147483648 := by rw [List.nil_append, List.length_take, List.length_drop, ml]; omega
      have af' : ([] ++ (r.map (stOf back v)).take 0) ++ (r.map (stOf back v)).drop 1 = (eraN r 0).map (stOf back v) := af
      simp only [law19_EdgeVertex_l_rd, Bool.cond_decide, ml, if_pos (show ((r.length : Nat) : Int) > 0 by omega), if_neg c', if_pos hr0, hh, p1, Option.bind_some, z0, cond_true, cond_false, iB, i1, if_pos f3, if_pos f4, if_pos f6, Nat.le_refl, Int.le_refl, if_true, if_pos f7, ij, af', eB]
      try rfl
  · rintro σ ⟨r, P, h, rfl, rn, rl, rm, rP, hp⟩
    have r0 : r = [] := List.length_eq_zero_iff.1 (by omega)
    subst r0
    refine ⟨.inr (((A.length * B : Nat) : Int), h.Ins, h.Mids, h.Outs, h.Edges, h.Gone), ?_, _, P, rfl, Int.natCast_mul _ _, hp, fun a ha => rP a ha (by simp)⟩
    have g0 : ¬ (((([] : List Nat).map (stOf back v)).length : Nat) : Int) > 0 := by simp
    simp only [law19_EdgeVertex_l_rd, decide_eq_false g0, cond_false]
end
theorem rest_loop {a3 : Int} {a4 x0 : Bool} {x1 : Graph} {x4 : Int × Int × Int × Int × List Edge × List Int} {x5 : Graph × Int × Int} {v : Int} (hv : x1.Ins + a3 % x1.Mids = v) (hl : x4.2.2.2.2.1.length ≤ 100000) :
    law19_EdgeVertex_l_2 a3 a4 x0 x1 x4 x5 [] 0 = some (x4.2.2.2.2.1.filter fun w => w.From != v && w.To != v) := by
  generalize hL : x4.2.2.2.2.1 = L at *
  unfold law19_EdgeVertex_l_2
  have := loop_run (round := fun σ : List Edge × Nat => law19_EdgeVertex_l_2_rd a3 a4 x0 x1 x4 x5 σ.1 σ.2) (fun i => ((L.take i).filter fun w => w.From != v && w.To != v, i)) L.length (r := (L.take L.length).filter fun w => w.From != v && w.To != v) (fun i hi => ?_) ?_ (by simp only [FU]; omega)
  · rw [List.take_length] at this; exact this
  · have hq := filt_len (l := L) (fun w : Edge => w.From != v && w.To != v) i
    have g1 : ((i : Nat) : Int) < (L.length : Int) := by omega
    have ii : inK .i64 (((i : Nat) : Int) + 1) = true := inK_i64 (by omega) (by omega)
    show law19_EdgeVertex_l_2_rd a3 a4 x0 x1 x4 x5 ((L.take i).filter fun w => w.From != v && w.To != v) i = some (.inl ((L.take (i + 1)).filter fun w => w.From != v && w.To != v, i + 1))
    have g2 : ((L.take i).filter fun w => w.From != v && w.To != v).length + 1 ≤ 2147483648 := by omega
    rw [filter_step hi]
    rcases Bool.eq_false_or_eq_true ((nth L i).From != v) with q | q <;> rcases Bool.eq_false_or_eq_true ((nth L i).To != v) with r | r <;>
      simp only [law19_EdgeVertex_l_2_rd, hL, hv, Bool.cond_decide, if_pos g1, if_pos hi, if_pos g2, q, r, ii, cond_true, cond_false, Bool.and_true, Bool.and_false, Bool.true_and, Bool.false_eq_true, if_true, if_false]
  · simp only [law19_EdgeVertex_l_2_rd, hL, Int.lt_irrefl, decide_false, cond_false]
theorem elT_val (t : Tab) {v i k : Nat} (h1 : i ≠ v) (h2 : k ≠ v) : elT t v i k = if (t i v).isSome = true ∧ (t v k).isSome = true then some ((t i k).getD 0 + (t i v).getD 0 * (t v k).getD 0) else t i k := by
  unfold elT stT
  rw [if_neg (fun c => by omega)]
  by_cases c : (t i v).isSome = true ∧ (t v k).isSome = true
  · rw [if_pos c, if_pos (show ((t i v).isSome && (t v k).isSome) = true from by rw [Bool.and_eq_true]; exact c)]
  · rw [if_neg c, if_neg (show ¬ ((t i v).isSome && (t v k).isSome) = true from by rw [Bool.and_eq_true]; exact c)]
section
variable {g h : Graph} {I M O v : Nat} (hg : RGr g I M O) (ok : g.Ok 1) (hv : I ≤ v) (hv2 : v < I + M) {back : Bool} {P : Nat → Bool} (hp : Pg g h I M O v back P) (hP : ∀ a, a ∈ others back (I + M + O) g.T v → P a = true)
include hg hv hv2 hp hP
theorem full_el {i k : Nat} (hi : i < I + M + O) (hk : k < I + M + O) (h1 : i ≠ v) (h2 : k ≠ v) : h.T i k = elT g.T v i k := by
  have _ := hg
  have _ := hv
  have _ := hv2
  rw [hp.t, elT_val g.T h1 h2]
  cases back with
  | true =>
    show paB g.T v P i k = _
    unfold paB
    by_cases c1 : (g.T v k).isSome = true
    · have pk : P k = true := hP k (mem_rowN.2 ⟨hk, c1⟩)
      rw [if_pos ⟨pk, c1⟩, if_neg h1]
      by_cases c2 : (g.T i v).isSome = true
      · rw [if_pos c2, if_pos ⟨c2, c1⟩]
      · rw [if_neg c2, if_neg (fun c => c2 c.1)]
    · rw [if_neg (fun c => c1 c.2), if_neg (fun c => c1 c.2)]
  | false =>
    show paF g.T v P i k = _
    unfold paF
    by_cases c1 : (g.T i v).isSome = true
    · have pk : P i = true := hP i (mem_colN.2 ⟨hi, c1⟩)
      rw [if_pos ⟨pk, c1⟩, if_neg h2]
      by_cases c2 : (g.T v k).isSome = true
      · rw [if_pos c2, if_pos ⟨c1, c2⟩]
      · rw [if_neg c2, if_neg (fun c => c2 c.2)]
    · rw [if_neg (fun c => c1 c.2), if_neg (fun c => c1 c.1)]
theorem rest_is : (h.Edges.filter fun w => w.From != (v : Int) && w.To != (v : Int)) = (g.elim (I + M + O) v).Edges := by
  have e := edges_T hp.r hp.ok
  rw [e]
  show _ = edgesOf (I + M + O) (elT g.T v)
  refine edges_uniq ((edgesOf_sorted _ _).filter _) (edgesOf_sorted _ _) fun x => ?_
  rw [List.mem_filter, mem_edgesOf, mem_edgesOf]
  constructor
  · rintro ⟨⟨i, k, q, hi, hk, hq, rfl⟩, hx⟩
    rw [Bool.and_eq_true, bne_iff_ne, bne_iff_ne] at hx
    have h1 : (i : Int) ≠ v := hx.1
    have h2 : (k : Int) ≠ v := hx.2
    exact ⟨i, k, q, hi, hk, by rw [← full_el hg hv hv2 hp hP hi hk (by omega) (by omega)]; exact hq, rfl⟩
  · rintro ⟨i, k, q, hi, hk, hq, rfl⟩
    obtain ⟨h1, h2, _⟩ := elT_some hq
    refine ⟨⟨i, k, q, hi, hk, by rw [full_el hg hv hv2 hp hP hi hk h1 h2]; exact hq, rfl⟩, ?_⟩
    rw [Bool.and_eq_true, bne_iff_ne, bne_iff_ne]
    exact ⟨fun c => by have c : (i : Int) = v := c; omega, fun c => by have c : (k : Int) = v := c; omega⟩
theorem none_left : (if back = true then h.outs (v : Int) else h.ins (v : Int)) = [] := by
  have hvv := vv hg hv hv2
  cases back with
  | true =>
    simp only [if_true]
    have e := outs_to hp.r v
    have : rowN (I + M + O) h.T v = [] := by
      refine List.filter_eq_nil_iff.2 fun k hk => ?_
      have hk := List.mem_range.1 hk
      rw [hp.t]
      show ¬ (paB g.T v P v k).isSome = true
      unfold paB
      by_cases c1 : (g.T v k).isSome = true
      · rw [if_pos ⟨hP k (mem_rowN.2 ⟨hk, c1⟩), c1⟩, if_pos rfl]; decide
      · rw [if_neg (fun c => c1 c.2)]; exact c1
    rw [this] at e
    exact List.map_eq_nil_iff.1 e
  | false =>
    simp only [Bool.false_eq_true, if_false]
    have e := ins_from hp.r v
    have : colN (I + M + O) h.T v = [] := by
      refine List.filter_eq_nil_iff.2 fun k hk => ?_
      have hk := List.mem_range.1 hk
      rw [hp.t]
      show ¬ (paF g.T v P k v).isSome = true
      unfold paF
      by_cases c1 : (g.T k v).isSome = true
      · rw [if_pos ⟨hP k (mem_colN.2 ⟨hk, c1⟩), c1⟩, if_pos rfl]; decide
      · rw [if_neg (fun c => c1 c.2)]; exact c1
    rw [this] at e
    exact List.map_eq_nil_iff.1 e
end
theorem EdgeVertex_true (x y z : Int) (l : List Link) (p : Int) (back : Bool) (keys : List Int) (hx : inRange .u8 x) (hy : inRange .u8 y) (hz : inRange .u8 z) (hl : l.length ≤ maxLen ∧ ∀ z, z ∈ l → inRange .u8 z.From ∧ inRange .u8 z.To ∧ inRange .i8 z.N ∧ inRange .u8 z.D_) (hp : inRange .u8 p) (hks : keys.length ≤ maxLen ∧ ∀ z, z ∈ keys → inRange .u8 z) : law19_EdgeVertex x y z l p back keys = some true := by
  by_cases h30 : ((l.length : Nat) : Int) > 30
  · simp only [law19_EdgeVertex, awake19, Option.bind_some, Bool.cond_decide, if_pos h30]
  · obtain ⟨I, M, O, ⟨i1, i2, m2, o1, o2, -⟩, hm, hg, ok, hE, hgone⟩ := made_all hx hy hz (links_ok hl.2) (by omega)
    generalize mkGraph I M O l = g at *
    have hI := hg.i
    have hM := hg.m
    by_cases h2 : M = 0
    · have : (g.Mids == 0) = true := by rw [hM, h2]; rfl
      simp only [law19_EdgeVertex, awake19, hm, this, Option.bind_some, Bool.cond_decide, if_neg h30, cond_true]
    · obtain ⟨p0, p1⟩ := hp
      have p1 : p ≤ 255 := p1
      have p0 : 0 ≤ p := p0
      have hpm := Int.emod_nonneg p (show (M : Int) ≠ 0 by omega)
      have hpl := Int.emod_lt_of_pos p (show (0 : Int) < M by omega)
      have m0 : (((M : Nat) : Int) == 0) = false := by rw [beq_eq_false_iff_ne]; omega
      have ip : inK .i64 p = true := inK_i64 (by omega) (by omega)
      obtain ⟨v, hv⟩ : ∃ v : Nat, (I : Int) + p % (M : Int) = (v : Int) := ⟨I + (p % (M : Int)).toNat, by omega⟩
      have hv1 : I ≤ v := by omega
      have hv2 : v < I + M := by omega
      have hc : g.can (v : Int) = true := can_iff.2 ⟨hg.right, by rw [hI]; omega, by rw [hI, hM]; omega, by rw [hgone]; simp⟩
      have st := Steps_eq ok (by decide) (v : Int) back
      rw [steps_is hg back hc] at st
      obtain ⟨x4, P, k1, k2, k3, k4⟩ := vertex_loop hg ok (by omega) hv1 hv2 back (a3 := p) (keys := keys) (fun z hz => ⟨(hks.2 z hz).1, (hks.2 z hz).2⟩) (Nat.le_trans hks.1 (by decide)) true
      have pe := prog_elim hg ok (by decide) (by decide) hc (by rw [hgone]; decide)
      have rest := fun x5 => rest_loop (a3 := p) (a4 := back) (x0 := true) (x1 := g) (x4 := x4) (x5 := x5) (v := (v : Int)) (by rw [hI, hM]; exact hv) k3.ok.e
      have ri := rest_is hg hv1 hv2 k3 k4
      have nl := none_left hg hv1 hv2 k3 k4
      have gi := graph_In_eq (n := 4) (by decide) k3.ok (v : Int)
      have go := graph_Out_eq (n := 4) (by decide) k3.ok (v : Int)
      rw [if_pos k3.r.right] at gi go
      have iv : inK .i64 (v : Int) = true := inK_i64 (by omega) (by omega)
      have same := edges_same (l := (g.elim (I + M + O) v).Edges) (Nat.le_trans (edgesOf_len _ _) (Nat.le_trans (Nat.mul_le_mul (show I + M + O ≤ 11 by omega) (show I + M + O ≤ 11 by omega)) (by decide))) (fun w hw => by
        have := edgesOf_sz ((T_sz hg ok (by decide)).el (by decide) v) w hw
        exact ⟨Nat.le_trans this.2.2.1 (by decide), Nat.le_trans this.2.2.2 (by decide)⟩)
      have z0 : ((0 : Int) == 0) = true := rfl
      rw [hI, hM] at k1
      have l0 : (((([] : List Edge).length : Nat) : Int) != 0) = false := rfl
      have f1 : (0 : Int) < (M : Int) := by omega
      dsimp only at ri gi go rest k3
      have cost : (x4.1 == g.prods (I + M + O) v) = true := by
        rw [beq_iff_eq, k2]
        unfold Graph.prods others otherSide
        cases back with
        | true => simp only [if_true]; exact Int.mul_comm _ _
        | false => simp only [Bool.false_eq_true, if_false]
      cases back with
      | true =>
        simp only [if_true] at nl
        rw [nl] at go
        simp only [law19_EdgeVertex, awake19, hm, hM, hI, m0, ip, if_pos p0, if_pos f1, hv, iv, st, k1, caseS_inr, pe, rest, ri, gi, go, l0, cost, same, z0, Option.bind_some, Bool.cond_decide, if_neg h30, cond_true, cond_false, Bool.not_true]
      | false =>
        simp only [Bool.false_eq_true, if_false] at nl
        rw [nl] at gi
        simp only [law19_EdgeVertex, awake19, hm, hM, hI, m0, ip, if_pos p0, if_pos f1, hv, iv, st, k1, caseS_inr, pe, rest, ri, gi, go, l0, cost, same, z0, Option.bind_some, Bool.cond_decide, if_neg h30, cond_true, cond_false, Bool.not_false]
end Go.Ab.M
end

section
/-
  ARGUMENTS AS TYPED DATA (printed by jot.py).
-/
namespace Go.Ab.M
open Go.Proofs Go.Proofs.YtcelliafjmmldaaGreat
set_option linter.unusedVariables false
def tyLink : Ty Tryz.prog 106 := Ty.as (Ty.struct Tryz.underlying106 (Flds.cons (Ty.int .u8 Tryz.underlying5) rfl 1 (by kernel_rfl) (Flds.cons (Ty.int .u8 Tryz.underlying5) rfl 1 (by kernel_rfl) (Flds.cons (Ty.int .i8 Tryz.underlying68) rfl 1 (by kernel_rfl) (Flds.last (Ty.int .u8 Tryz.underlying5) rfl (by kernel_rfl))))))
  (fun y => Link.mk y.1 y.2.1 y.2.2.1 y.2.2.2) Link.D (fun y => inRange .u8 y.From ∧ inRange .u8 y.To ∧ inRange .i8 y.N ∧ inRange .u8 y.D_) (fun _ => 0) (fun _ => rfl) (fun _ h => h) (fun _ => Nat.zero_le _)
end Go.Ab.M
end

section
namespace Go.Proofs.YtcelliafjmmldaaGreat.edgeVertex
open Go.ChangeShapes Go.WideShapes Go.ChangeAt Go.RowKit Go.Ab Go.Ab.M
set_option linter.unusedVariables false

theorem own : ownKnob Tryz.prog.godebug = none := by kernel_rfl

theorem core (a : Int) (b : Int) (c : Int) (d : List Link) (e : Int) (f : Bool) (g : List Int) (ha : inRange .u8 a) (hb : inRange .u8 b) (hc : inRange .u8 c) (hd : (d.length ≤ maxLen ∧ ∀ z, z ∈ d → tyLink.ok z)) (he : inRange .u8 e) (hg : (g.length ≤ maxLen ∧ ∀ z, z ∈ g → inRange .u8 z)) : ACallsD Tryz.prog 12 0 [NI .u8 a, NI .u8 b, NI .u8 c, SL Link.D d, NI .u8 e, B f, SL (cI .u8) g] [] yes [] := law19_EdgeVertex_ok a b c d e f g true (EdgeVertex_true a b c d e f g ha hb hc hd he hg)

set_option maxRecDepth 100000 in
theorem contract (H : Type) (enc : TypeId × Value → H) (W : World) (base : Nat) (args : Array Value) (ds gs : List (DataW H)) (before : List MemPlace)
    (hval : ∀ (j : Nat) t v, Tryz.f12.params[j]? = some t → args[j]? = some v → Value.okWide Tryz.prog W .any base t v)
    (hW : DataW.Whole enc Tryz.prog Tryz.f12.params.toList Rows.edgeVertexSpec.vars false W args.toList ds gs before) :
    Calls Tryz.prog 12 args W fun e W' => ∃ v, e = .returned v ∧ Rows.edgeVertexSpec.post enc Tryz.prog Tryz.f12 false true false false W args v W' :=
  law_contract (tb := 4) (ts := [5, 5, 5, 22, 5, 4, 23]) (Tup.one (Ty.int .u8 Tryz.underlying5) (fun n => .v (.int .u8 n)) (fun _ => rfl) (one_int Tryz.underlying5) (Tup.one (Ty.int .u8 Tryz.underlying5) (fun n => .v (.int .u8 n)) (fun _ => rfl) (one_int Tryz.underlying5) (Tup.one (Ty.int .u8 Tryz.underlying5) (fun n => .v (.int .u8 n)) (fun _ => rfl) (one_int Tryz.underlying5) (Tup.one (Ty.slice Tryz.underlying22 tyLink (by decide +kernel) (fun _ => show 4 = _ by kernel_rfl)) (fun l => .sl (l.map Link.D)) (fun _ => rfl) (one_slice Tryz.underlying22) (Tup.one (Ty.int .u8 Tryz.underlying5) (fun n => .v (.int .u8 n)) (fun _ => rfl) (one_int Tryz.underlying5) (Tup.one (Ty.bool Tryz.underlying4) (fun n => .v (.bool n)) (fun _ => rfl) (one_bool Tryz.underlying4) (Tup.one (Ty.slice Tryz.underlying23 (Ty.int .u8 Tryz.underlying5) (by decide +kernel) (fun _ => show 1 = _ by kernel_rfl)) (fun l => .sl (l.map (cI .u8))) (fun _ => rfl) (one_slice Tryz.underlying23) Tup.nil))))))) (by kernel_rfl) (by kernel_rfl) (by kernel_rfl) (by kernel_rfl) Tryz.underlying4 rfl (fun ds h => by
      match ds, h with
      | [d0, d1, d2, d3, d4, d5, d6], _ => rfl) hval hW
    fun y hy _ => core y.1 y.2.1 y.2.2.1 y.2.2.2.1 y.2.2.2.2.1 y.2.2.2.2.2.1 y.2.2.2.2.2.2.1 hy.1 hy.2.1 hy.2.2.1 hy.2.2.2.1 hy.2.2.2.2.1 hy.2.2.2.2.2.2.1

set_option maxRecDepth 100000 in
theorem lifted (os : Os) (started : os.Started) (H : Type) (enc : TypeId × Value → H) :
    ReturnsInHanded {} Tryz.checked os 12 .any (Rows.edgeVertexSpec.pre6 enc Tryz.prog Tryz.f12 Rows.edgeVertexRow.domain false) (Rows.edgeVertexSpec.post enc Tryz.prog Tryz.f12 false true false false) := by
  refine returnsInHanded_of_change (C := Tryz.checked) own started (by kernel_rfl) Tryz.func12
    (ChangeSpec.witness6 (enc := enc) (C := Tryz.checked) false ⟨#[], #[.int .u8 0, .int .u8 0, .int .u8 0, .slice none 0 0, .int .u8 0, .bool false, .slice none 0 0], []⟩ 8 (by kernel_rfl) (by kernel_rfl) (by kernel_rfl) (by kernel_rfl)) ?_
  intro W base args ds gs before hval hW _ _
  exact contract H enc W base args ds gs before hval hW

theorem fact0 : (Rows.edgeVertexRow.wf (OpenSpec.ofChange Rows.edgeVertexSpec)) = true := by kernel_rfl
theorem fact1 : (laidOutB Tryz.prog) = true := by kernel_rfl
theorem fact2 : (mapsRowed Tryz.prog) = true := by kernel_rfl
theorem fact3 : (Tryz.f12.params.all (Tryz.prog.readableRec ·)) = true := by kernel_rfl
theorem fact4 : (namedTie Tryz.prog Rows.edgeVertexRow.named Rows.edgeVertexSpec.vars) = true := by kernel_rfl
theorem fact5 : ((Rows.edgeVertexRow.stops == [])) = true := by kernel_rfl
theorem fact6 : ((Tryz.prog.stops == [])) = true := by kernel_rfl
theorem fact7 : ((Rows.edgeVertexRow.knobs == [])) = true := by kernel_rfl
theorem fact8 : ((Tryz.prog.stopKnobs == [])) = true := by kernel_rfl
theorem fact9 : ((Rows.edgeVertexRow.inPlace == Tryz.prog.inPlace 12)) = true := by kernel_rfl
theorem fact10 : ((Rows.edgeVertexRow.unfollowed == Tryz.prog.unfollowed 12)) = true := by kernel_rfl
theorem fact11 : ((Rows.edgeVertexRow.recurses == Tryz.prog.recurses 12)) = true := by kernel_rfl
theorem fact12 : ((Rows.edgeVertexRow.named == Tryz.prog.varsNamed 12)) = true := by kernel_rfl
theorem fact13 : ((Rows.edgeVertexRow.maps == (Tryz.f12.params.toList ++ Rows.edgeVertexSpec.plain.varTypes Tryz.prog).any (Tryz.prog.mapsRec ·))) = true := by kernel_rfl
theorem fact14 : ((Rows.edgeVertexRow.ifaces == (Tryz.f12.params.toList ++ Rows.edgeVertexSpec.plain.varTypes Tryz.prog).any (Tryz.prog.ifacesRec ·))) = true := by kernel_rfl
theorem fact15 : ((Rows.edgeVertexRow.mapsOut == Tryz.prog.mapsAmong Tryz.f12.resultTypes.toList)) = true := by kernel_rfl
theorem fact16 : ((Rows.edgeVertexRow.loops == (Tryz.f12.params.toList ++ Rows.edgeVertexSpec.plain.varTypes Tryz.prog).any (Tryz.prog.loopsFrom ·))) = true := by kernel_rfl
theorem fact17 : ((Rows.edgeVertexRow.wideKeys == (Tryz.f12.params.toList ++ Rows.edgeVertexSpec.plain.varTypes Tryz.prog ++ Tryz.f12.resultTypes.toList).any (Tryz.prog.wideKeysFrom ·))) = true := by kernel_rfl
theorem fact18 : (Rows.edgeVertexSpec.vars.all (Tryz.prog.varReadable ·)) = true := by kernel_rfl
theorem fact19 : (Tryz.f12.resultTypes.all (fun t => Tryz.prog.readableRec t && decide (t < Tryz.prog.types.size))) = true := by kernel_rfl
theorem fact20 : ((Rows.edgeVertexRow.ifacesOut == Tryz.f12.resultTypes.toList.any (Tryz.prog.ifacesRec ·))) = true := by kernel_rfl
theorem fact21 : ((Rows.edgeVertexRow.loopsOut == Tryz.f12.resultTypes.toList.any (Tryz.prog.loopsFrom ·))) = true := by kernel_rfl
theorem fact22 : ((Rows.edgeVertexRow.plainKeys == Tryz.prog.plainKeys)) = true := by kernel_rfl
theorem fact23 : (Rows.edgeVertexRow.shortTexts.isNone) = true := by kernel_rfl
theorem fact24 : (Tryz.prog.stopsHeard) = true := by kernel_rfl
theorem fact25 : (Tryz.prog.mayEnter) = true := by kernel_rfl
theorem fact26 : ((Rows.edgeVertexRow.lifted == Tryz.prog.liftsFinal)) = true := by kernel_rfl
theorem fact27 : ((Tryz.prog.make == some Rows.edgeVertexRow.make)) = true := by kernel_rfl
theorem fact28 : ((Rows.edgeVertexRow.kinds == (if Rows.edgeVertexRow.domain.isEmpty then [] else Tryz.f12.params.toList.map fun t => match Tryz.prog.underlying t with | some (.int k) => some k | _ => none))) = true := by kernel_rfl
theorem fact29 : ((Rows.edgeVertexRow.pinned == Rows.edgeVertexRow.pinnedBy)) = true := by kernel_rfl
theorem fact30 : ((Rows.edgeVertexRow.veiled == (Tryz.f12.params.toList ++ Rows.edgeVertexSpec.plain.varTypes Tryz.prog ++ Tryz.f12.resultTypes.toList).any (Tryz.prog.veiledRec ·))) = true := by kernel_rfl
theorem fact31 : (Rows.edgeVertexRow.veiledFits Tryz.prog Tryz.f12.params.toList (Tryz.f12.params.toList ++ Rows.edgeVertexSpec.plain.varTypes Tryz.prog ++ Tryz.f12.resultTypes.toList)) = true := by kernel_rfl
theorem and_t {a b : Bool} (h : a = true) (k : b = true) : (a && b) = true := by rw [h, k]; rfl
set_option maxRecDepth 100000 in
theorem closed : joinedFacts Tryz.prog 12 Tryz.f12 Rows.edgeVertexSpec Rows.edgeVertexRow = true := by
  unfold joinedFacts
  exact and_t (and_t (and_t (and_t (and_t (and_t (and_t (and_t (and_t (and_t (and_t (and_t (and_t (and_t (and_t (and_t (and_t (and_t (and_t (and_t (and_t (and_t (and_t (and_t (and_t (and_t (and_t (and_t (and_t (and_t (and_t (fact0) fact1) fact2) fact3) fact4) fact5) fact6) fact7) fact8) fact9) fact10) fact11) fact12) fact13) fact14) fact15) fact16) fact17) fact18) fact19) fact20) fact21) fact22) fact23) fact24) fact25) fact26) fact27) fact28) fact29) fact30) fact31

theorem over : Rows.edgeVertexRow.holds Tryz.pinned (OpenSpec.ofChange Rows.edgeVertexSpec) :=
  OpenClaim.holds_of_wide 12 Tryz.f12 rfl rfl rfl rfl rfl rfl rfl ⟨rfl, rfl, rfl, rfl, rfl⟩ rfl rfl rfl rfl rfl (by kernel_rfl) Tryz.func12 closed
    (of_decide_eq_true (by kernel_rfl)) (by unfold Func.isWrapper; first | (rw [if_pos (by decide +kernel)]; kernel_rfl) | (rw [if_neg (by decide +kernel)]; exact ⟨rfl, rfl⟩))
    (fun os started H enc _ => lifted os started H enc)

theorem proved : Rows.EdgeVertexSaid :=
  over
end Go.Proofs.YtcelliafjmmldaaGreat.edgeVertex
end
