/-
  THE LAW 'EdgeTells' HOLDS AT EVERY INPUT.
  Conditions: none.
-/
import Derived.Test.YthikenallhbkpaaGreatLwEdgeTells
import Derived.Test.YthikenallhbkpaaGreatTN
import Derived.Test.YthikenallhbkpaaGreatPR
import Derived.Test.YthikenallhbkpaaGreatPS
section
/-
  PLAIN LAW: SEARCHING IN SORTED EDGES; EDGES PUT IN AND TAKEN OUT.
-/
namespace Go.Ab.M
open Go.Proofs Go.Ab
set_option linter.unusedVariables false
set_option linter.unusedSimpArgs false

theorem edge_find_1_eq (x y : Edge) : edge_find_1 x y = some (cmpG x y) := by
  unfold edge_find_1
  simp only [compareG, Option.bind_some, or2G]
  congr 1
  unfold cmpG
  repeat' split
  all_goals omega
def befE (e : Edge) (a b : Int) : Prop := e.From < a ∨ (e.From = a ∧ e.To < b)
instance (e : Edge) (a b : Int) : Decidable (befE e a b) := by unfold befE; infer_instance
theorem cmpG_lt {x y : Edge} : cmpG x y < 0 ↔ befE x y.From y.To := by
  unfold cmpG befE
  repeat' split
  all_goals (constructor <;> intro h <;> omega)
theorem cmpG_eq {x y : Edge} : cmpG x y = 0 ↔ x.From = y.From ∧ x.To = y.To := by
  unfold cmpG
  repeat' split
  all_goals (constructor <;> intro h <;> omega)
theorem mid_eq {i j : Nat} (h : i + j ≤ 4000000000) : IntKind.wrap .i64 (shrI .u64 (IntKind.wrap .u64 ((i : Int) + (j : Int))) 1) = (((i + j) / 2 : Nat) : Int) := by
  have e : (i : Int) + (j : Int) = ((i + j : Nat) : Int) := (Int.natCast_add ..).symm
  rw [e, wrap_u64 (isW_nat (by omega))]
  have e1 : shrI .u64 ((i + j : Nat) : Int) 1 = ((i + j : Nat) : Int).fdiv (2 ^ 1) := rfl
  rw [e1, Int.fdiv_eq_ediv_of_nonneg _ (by decide)]
  have e2 : ((i + j : Nat) : Int) / 2 ^ 1 = (((i + j) / 2 : Nat) : Int) := by omega
  rw [e2, IntKind.wrap_i64]
  omega
theorem bs_loop {l : List Edge} {a b : Int} {w : Rat} (hl : l.length ≤ 1000000) {k : Nat} (hk : k ≤ l.length) (h1 : ∀ p, p < k → befE (nth l p) a b) (h2 : ∀ p, k ≤ p → p < l.length → ¬ befE (nth l p) a b) :
    ∀ (n i j : Nat), j - i < n → i ≤ k → k ≤ j → j ≤ l.length → loopN (fun σ : Int × Int => slices_BinarySearchFunc_api_Edge_api_Edge_api_Edge_l_rd l ⟨a, b, w⟩ σ.1 σ.2) n ((i : Int), (j : Int)) = some (k : Int)
  | 0, i, j, h, _, _, _ => by omega
  | n + 1, i, j, h, hi, hj, hjl => by
    show (slices_BinarySearchFunc_api_Edge_api_Edge_api_Edge_l_rd l ⟨a, b, w⟩ (i : Int) (j : Int)).bind _ = _
    by_cases c : i < j
    · have g1 : (i : Int) < (j : Int) := by omega
      have hm := mid_eq (i := i) (j := j) (by omega)
      have g2 : (0 : Int) ≤ (((i + j) / 2 : Nat) : Int) := by omega
      have g3 : (i + j) / 2 < l.length := by omega
      have e3 : (((i + j) / 2 : Nat) : Int).toNat = (i + j) / 2 := by omega
      have ii : inK .i64 ((i : Int) + (j : Int)) = true := inK_i64 (by omega) (by omega)
      have i2 : inK .i64 ((((i + j) / 2 : Nat) : Int) + 1) = true := inK_i64 (by omega) (by omega)
      by_cases d : befE (nth l ((i + j) / 2)) a b
      · have q : cmpG (nth l ((i + j) / 2)) ⟨a, b, w⟩ < 0 := cmpG_lt.2 d
        have hlt : (i + j) / 2 < k := by
          rcases Nat.lt_or_ge ((i + j) / 2) k with x | x
          · exact x
          · exact absurd d (h2 _ x (by omega))
        have := bs_loop (w := w) hl hk h1 h2 n ((i + j) / 2 + 1) j (by omega) (by omega) hj hjl
        have e4 : (((i + j) / 2 : Nat) : Int) + 1 = (((i + j) / 2 + 1 : Nat) : Int) := by omega
        rw [← e4] at this
        have r : slices_BinarySearchFunc_api_Edge_api_Edge_api_Edge_l_rd l ⟨a, b, w⟩ (i : Int) (j : Int) = some (.inl ((((i + j) / 2 : Nat) : Int) + 1, (j : Int))) := by
          simp only [slices_BinarySearchFunc_api_Edge_api_Edge_api_Edge_l_rd, decide_eq_true g1, cond_true, ii, hm, decide_eq_true g2, e3, decide_eq_true g3, edge_find_1_eq, Option.bind_some, decide_eq_true q, i2]
        rw [r]
        exact this
      · have q : ¬ cmpG (nth l ((i + j) / 2)) ⟨a, b, w⟩ < 0 := fun x => d (cmpG_lt.1 x)
        have hge : k ≤ (i + j) / 2 := by
          rcases Nat.lt_or_ge ((i + j) / 2) k with x | x
          · exact absurd (h1 _ x) d
          · exact x
        have := bs_loop (w := w) hl hk h1 h2 n i ((i + j) / 2) (by omega) hi hge (by omega)
        have r : slices_BinarySearchFunc_api_Edge_api_Edge_api_Edge_l_rd l ⟨a, b, w⟩ (i : Int) (j : Int) = some (.inl ((i : Int), (((i + j) / 2 : Nat) : Int))) := by
          simp only [slices_BinarySearchFunc_api_Edge_api_Edge_api_Edge_l_rd, decide_eq_true g1, cond_true, ii, hm, decide_eq_true g2, e3, decide_eq_true g3, edge_find_1_eq, Option.bind_some, decide_eq_false q, cond_false]
        rw [r]
        exact this
    · have g1 : ¬ (i : Int) < (j : Int) := by omega
      obtain rfl : i = k := by omega
      simp only [slices_BinarySearchFunc_api_Edge_api_Edge_api_Edge_l_rd, decide_eq_false g1, cond_false, Option.bind_some, caseS_inr]
/-- the place of a pair in sorted edges -/
def plE (l : List Edge) (a b : Int) : Nat := (l.filter fun e => decide (befE e a b)).length
theorem plE_le (l : List Edge) (a b : Int) : plE l a b ≤ l.length := List.length_filter_le _ _
theorem plE_is : ∀ {l : List Edge}, l.Pairwise edgeLt → ∀ (a b : Int), (∀ p, p < plE l a b → befE (nth l p) a b) ∧ ∀ p, plE l a b ≤ p → p < l.length → ¬ befE (nth l p) a b
  | [], _, a, b => ⟨fun p hp => by simp [plE] at hp, fun p _ hp => by simp at hp⟩
  | e :: l, h, a, b => by
    obtain ⟨hh, ht⟩ := List.pairwise_cons.1 h
    obtain ⟨i1, i2⟩ := plE_is ht a b
    by_cases c : befE e a b
    · have e1 : plE (e :: l) a b = plE l a b + 1 := by unfold plE; rw [List.filter_cons_of_pos (by simpa using c)]; rfl
      rw [e1]
      refine ⟨fun p hp => ?_, fun p hp hp2 => ?_⟩
      · cases p with
        | zero => exact c
        | succ p => exact i1 p (by omega)
      · cases p with
        | zero => omega
        | succ p => exact i2 p (by omega) (by simpa using hp2)
    · have e0 : ∀ x ∈ l, ¬ befE x a b := fun x hx hb => c (by have := hh x hx; unfold edgeLt at this; unfold befE at *; omega)
      have e1 : plE (e :: l) a b = 0 := by
        unfold plE
        rw [List.length_eq_zero_iff, List.filter_eq_nil_iff]
        intro x hx
        rcases List.mem_cons.1 hx with rfl | hx
        · simpa using c
        · simpa using e0 x hx
      rw [e1]
      refine ⟨fun p hp => by omega, fun p _ hp2 => ?_⟩
      cases p with
      | zero => exact c
      | succ p => exact e0 _ (nth_mem (l := l) (i := p) (by simpa using hp2))
/-- is a pair there? -/
def hasE (l : List Edge) (a b : Int) : Bool := l.any fun e => e.From == a && e.To == b
theorem hasE_iff {l : List Edge} {a b : Int} : hasE l a b = true ↔ ∃ e, e ∈ l ∧ e.From = a ∧ e.To = b := by
  unfold hasE
  rw [List.any_eq_true]
  constructor
  · rintro ⟨e, he, h⟩
    rw [Bool.and_eq_true, beq_iff_eq, beq_iff_eq] at h
    exact ⟨e, he, h⟩
  · rintro ⟨e, he, h⟩
    exact ⟨e, he, by rw [Bool.and_eq_true, beq_iff_eq, beq_iff_eq]; exact h⟩
theorem hasE_at {l : List Edge} (h : l.Pairwise edgeLt) {a b : Int} : hasE l a b = true ↔ plE l a b < l.length ∧ (nth l (plE l a b)).From = a ∧ (nth l (plE l a b)).To = b := by
  obtain ⟨i1, i2⟩ := plE_is h a b
  rw [hasE_iff]
  constructor
  · rintro ⟨e, he, rfl, rfl⟩
    obtain ⟨p, hp, rfl⟩ := mem_nth he
    have hle : plE l (nth l p).From (nth l p).To ≤ p := by
      rcases Nat.lt_or_ge p (plE l (nth l p).From (nth l p).To) with x | x
      · have := i1 p x; unfold befE at this; omega
      · exact x
    have hlt : plE l (nth l p).From (nth l p).To < l.length := by omega
    have := i2 _ (Nat.le_refl _) hlt
    by_cases c : plE l (nth l p).From (nth l p).To = p
    · rw [c]; exact ⟨hp, rfl, rfl⟩
    · have hs := List.pairwise_iff_getElem.1 h _ p hlt hp (by omega)
      rw [← nth_get hlt, ← nth_get hp] at hs
      exact absurd hs (by unfold edgeLt; unfold befE at this; exact this)
  · rintro ⟨h1, h2⟩
    exact ⟨_, nth_mem h1, h2⟩
theorem find_eq {l : List Edge} (h : l.Pairwise edgeLt) (hl : l.length ≤ 1000000) (a b : Int) : edge_find l a b = some (((plE l a b : Nat) : Int), hasE l a b) := by
  obtain ⟨i1, i2⟩ := plE_is h a b
  have hk := plE_le l a b
  have hb : slices_BinarySearchFunc_api_Edge_api_Edge_api_Edge_l l ⟨a, b, Rat.mk false [] []⟩ 0 ((l.length : Nat) : Int) = some ((plE l a b : Nat) : Int) :=
    bs_loop hl hk i1 i2 FU 0 l.length (by simp only [FU]; omega) (Nat.zero_le _) hk (Nat.le_refl _)
  have hz := hasE_at h (a := a) (b := b)
  by_cases c : plE l a b < l.length
  · have g1 : ((plE l a b : Nat) : Int) < ((l.length : Nat) : Int) := by omega
    have g2 : (0 : Int) ≤ ((plE l a b : Nat) : Int) := by omega
    have e3 : ((plE l a b : Nat) : Int).toNat = plE l a b := by omega
    have e4 : (cmpG (nth l (plE l a b)) ⟨a, b, Rat.mk false [] []⟩ == 0) = hasE l a b := by
      rw [Bool.eq_iff_iff, beq_iff_eq, cmpG_eq, hz]
      exact ⟨fun x => ⟨c, x⟩, fun x => x.2⟩
    simp only [edge_find, slices_BinarySearchFunc_api_Edge_api_Edge_api_Edge, hb, Option.bind_some, decide_eq_true g1, decide_eq_true g2, e3, decide_eq_true c, cond_true, edge_find_1_eq, e4]
  · have g1 : ¬ ((plE l a b : Nat) : Int) < ((l.length : Nat) : Int) := by omega
    have e4 : hasE l a b = false := by
      cases q : hasE l a b with
      | false => rfl
      | true => exact absurd (hz.1 q).1 c
    simp only [edge_find, slices_BinarySearchFunc_api_Edge_api_Edge_api_Edge, hb, Option.bind_some, decide_eq_false g1, cond_false, e4]
/-! ### surgery -/
theorem edges_uniq {l m : List Edge} (h : l.Pairwise edgeLt) (k : m.Pairwise edgeLt) (e : ∀ x, x ∈ l ↔ x ∈ m) : l = m := by
  have nd : ∀ {l : List Edge}, l.Pairwise edgeLt → l.Nodup := fun h => h.imp fun {a b} q => fun e => by subst e; unfold edgeLt at q; omega
  refine ((List.perm_ext_iff_of_nodup (nd h) (nd k)).2 e).eq_of_pairwise (le := edgeLt) (fun a b _ _ h1 h2 => ?_) h k
  unfold edgeLt at h1 h2; omega
theorem edgesOf_sorted (n : Nat) (t : Tab) : (edgesOf n t).Pairwise edgeLt :=
  grid_pair (fun i k i' k' x y h h' hlt => by
    rw [Option.map_eq_some_iff] at h h'
    obtain ⟨q, _, rfl⟩ := h
    obtain ⟨q', _, rfl⟩ := h'
    show (i : Int) < (i' : Int) ∨ ((i : Int) = (i' : Int) ∧ (k : Int) < (k' : Int))
    omega) n
theorem mem_edgesOf {n : Nat} {t : Tab} {e : Edge} : e ∈ edgesOf n t ↔ ∃ i k q, i < n ∧ k < n ∧ t i k = some q ∧ e = ⟨(i : Int), (k : Int), ofR q⟩ := by
  unfold edgesOf
  rw [mem_grid]
  constructor
  · rintro ⟨i, k, hi, hk, h⟩
    rw [Option.map_eq_some_iff] at h
    obtain ⟨q, hq, rfl⟩ := h
    exact ⟨i, k, q, hi, hk, hq, rfl⟩
  · rintro ⟨i, k, q, hi, hk, hq, rfl⟩
    exact ⟨i, k, hi, hk, by rw [hq]; rfl⟩
def delT (t : Tab) (a b : Nat) : Tab := fun i k => if i = a ∧ k = b then none else t i k
theorem has_edgesOf {n : Nat} {t : Tab} {a b : Nat} (ha : a < n) (hb : b < n) : hasE (edgesOf n t) (a : Int) (b : Int) = (t a b).isSome := by
  rw [Bool.eq_iff_iff, hasE_iff]
  constructor
  · rintro ⟨e, he, h1, h2⟩
    obtain ⟨i, k, q, hi, hk, hq, rfl⟩ := mem_edgesOf.1 he
    have e1 : i = a := by have : (i : Int) = a := h1; omega
    have e2 : k = b := by have : (k : Int) = b := h2; omega
    subst e1; subst e2
    rw [hq]; rfl
  · intro h
    obtain ⟨q, hq⟩ := Option.isSome_iff_exists.1 h
    exact ⟨_, mem_edgesOf.2 ⟨a, b, q, ha, hb, hq, rfl⟩, rfl, rfl⟩
theorem take_mem_lt {l : List Edge} {k : Nat} {x : Edge} (h : x ∈ l.take k) : ∃ p, p < k ∧ p < l.length ∧ nth l p = x := by
  obtain ⟨p, hp, e⟩ := List.getElem_of_mem h
  rw [List.length_take] at hp
  refine ⟨p, by omega, by omega, ?_⟩
  rw [nth_get (by omega), ← e, List.getElem_take]
theorem drop_mem_ge {l : List Edge} {k : Nat} {x : Edge} (h : x ∈ l.drop k) : ∃ p, k ≤ p ∧ p < l.length ∧ nth l p = x := by
  obtain ⟨p, hp, e⟩ := List.getElem_of_mem h
  rw [List.length_drop] at hp
  refine ⟨k + p, by omega, by omega, ?_⟩
  rw [nth_get (by omega), ← e, List.getElem_drop]
/-- an edge at its place, instead of what was there -/
theorem put_is {n : Nat} {t : Tab} {a b : Nat} (ha : a < n) (hb : b < n) (q : _root_.Rat) {m : Nat} (hm : m = if (t a b).isSome = true then plE (edgesOf n t) a b + 1 else plE (edgesOf n t) a b) :
    (edgesOf n t).take (plE (edgesOf n t) a b) ++ (⟨(a : Int), (b : Int), ofR q⟩ : Edge) :: (edgesOf n t).drop m = edgesOf n (updT t a b q) := by
  have hs := edgesOf_sorted n t
  obtain ⟨i1, i2⟩ := plE_is hs (a : Int) (b : Int)
  have hz := hasE_at hs (a := (a : Int)) (b := (b : Int))
  rw [has_edgesOf ha hb] at hz
  generalize plE (edgesOf n t) (a : Int) (b : Int) = k at *
  have hkm : k ≤ m := by rw [hm]; split <;> omega
  -- behind the place
  have hbig : ∀ p, m ≤ p → p < (edgesOf n t).length → (a : Int) < (nth (edgesOf n t) p).From ∨ ((a : Int) = (nth (edgesOf n t) p).From ∧ (b : Int) < (nth (edgesOf n t) p).To) := fun p hp hpl => by
    have h1 := i2 p (by omega) hpl
    by_cases c : (t a b).isSome = true
    · obtain ⟨z1, z2, z3⟩ := hz.1 c
      rw [if_pos c] at hm
      have hs' := List.pairwise_iff_getElem.1 hs k p z1 hpl (by omega)
      rw [← nth_get z1, ← nth_get hpl] at hs'
      unfold edgeLt at hs'
      omega
    · have h2 : ¬ ((nth (edgesOf n t) p).From = (a : Int) ∧ (nth (edgesOf n t) p).To = (b : Int)) := fun h => c (by
        rw [← has_edgesOf ha hb (t := t)]
        exact hasE_iff.2 ⟨_, nth_mem hpl, h⟩)
      unfold befE at h1
      omega
  refine edges_uniq ?_ (edgesOf_sorted _ _) fun x => ?_
  · refine List.pairwise_append.2 ⟨hs.sublist (List.take_sublist _ _), List.pairwise_cons.2 ⟨fun x hx => ?_, hs.sublist (List.drop_sublist _ _)⟩, fun x hx y hy => ?_⟩
    · obtain ⟨p, h1, h2, rfl⟩ := drop_mem_ge hx
      exact hbig p h1 h2
    · obtain ⟨p, h1, h2, rfl⟩ := take_mem_lt hx
      have h3 := i1 p h1
      rcases List.mem_cons.1 hy with rfl | hy
      · exact h3
      · obtain ⟨p', h1', h2', rfl⟩ := drop_mem_ge hy
        have h4 := hbig p' h1' h2'
        unfold befE at h3
        unfold edgeLt
        omega
  · rw [List.mem_append, List.mem_cons, mem_edgesOf]
    constructor
    · rintro (hx | rfl | hx)
      · obtain ⟨p, h1, h2, rfl⟩ := take_mem_lt hx
        have h3 := i1 p h1
        obtain ⟨i, j, r, hi, hj, hr, e⟩ := mem_edgesOf.1 (nth_mem h2)
        rw [e] at h3 ⊢
        refine ⟨i, j, r, hi, hj, ?_, rfl⟩
        unfold updT
        rw [if_neg (fun c => by unfold befE at h3; simp only at h3; omega)]
        exact hr
      · exact ⟨a, b, q, ha, hb, by unfold updT; rw [if_pos ⟨rfl, rfl⟩], rfl⟩
      · obtain ⟨p, h1, h2, rfl⟩ := drop_mem_ge hx
        have h3 := hbig p h1 h2
        obtain ⟨i, j, r, hi, hj, hr, e⟩ := mem_edgesOf.1 (nth_mem h2)
        rw [e] at h3 ⊢
        refine ⟨i, j, r, hi, hj, ?_, rfl⟩
        unfold updT
        rw [if_neg (fun c => by simp only at h3; omega)]
        exact hr
    · rintro ⟨i, j, r, hi, hj, hr, rfl⟩
      unfold updT at hr
      by_cases c : i = a ∧ j = b
      · rw [if_pos c] at hr
        cases hr
        rw [c.1, c.2]
        exact .inr (.inl rfl)
      · rw [if_neg c] at hr
        have hx : (⟨(i : Int), (j : Int), ofR r⟩ : Edge) ∈ edgesOf n t := mem_edgesOf.2 ⟨i, j, r, hi, hj, hr, rfl⟩
        obtain ⟨p, hp, e⟩ := mem_nth hx
        by_cases d : p < k
        · left
          rw [← e, nth_get hp]
          exact List.mem_take_iff_getElem.2 ⟨p, by omega, rfl⟩
        · right; right
          have hmp : m ≤ p := by
            rw [hm]
            by_cases c2 : (t a b).isSome = true
            · rw [if_pos c2]
              by_cases d2 : p = k
              · exfalso
                obtain ⟨z1, z2, z3⟩ := hz.1 c2
                rw [← d2, e] at z2 z3
                have z2 : (i : Int) = a := z2
                have z3 : (j : Int) = b := z3
                omega
              · omega
            · rw [if_neg c2]; omega
          rw [← e, nth_get hp]
          exact List.mem_drop_iff_getElem.2 ⟨p - m, by omega, by congr 1; omega⟩
/-- without an edge that is there -/
theorem cut_is {n : Nat} {t : Tab} {a b : Nat} (ha : a < n) (hb : b < n) (h : (t a b).isSome = true) :
    (edgesOf n t).take (plE (edgesOf n t) a b) ++ (edgesOf n t).drop (plE (edgesOf n t) a b + 1) = edgesOf n (delT t a b) := by
  have hs := edgesOf_sorted n t
  obtain ⟨i1, i2⟩ := plE_is hs (a : Int) (b : Int)
  have hz := hasE_at hs (a := (a : Int)) (b := (b : Int))
  rw [has_edgesOf ha hb] at hz
  obtain ⟨z1, z2, z3⟩ := hz.1 h
  generalize plE (edgesOf n t) (a : Int) (b : Int) = k at *
  have hbig : ∀ p, k + 1 ≤ p → p < (edgesOf n t).length → (a : Int) < (nth (edgesOf n t) p).From ∨ ((a : Int) = (nth (edgesOf n t) p).From ∧ (b : Int) < (nth (edgesOf n t) p).To) := fun p hp hpl => by
    have hs' := List.pairwise_iff_getElem.1 hs k p z1 hpl (by omega)
    rw [← nth_get z1, ← nth_get hpl] at hs'
    unfold edgeLt at hs'
    omega
  refine edges_uniq (List.pairwise_append.2 ⟨hs.sublist (List.take_sublist _ _), hs.sublist (List.drop_sublist _ _), fun x hx y hy => ?_⟩) (edgesOf_sorted _ _) fun x => ?_
  · obtain ⟨p, h1, h2, rfl⟩ := take_mem_lt hx
    obtain ⟨p', h1', h2', rfl⟩ := drop_mem_ge hy
    have h3 := i1 p h1
    have h4 := hbig p' h1' h2'
    unfold befE at h3
    unfold edgeLt
    omega
  · rw [List.mem_append, mem_edgesOf]
    constructor
    · rintro (hx | hx)
      · obtain ⟨p, h1, h2, rfl⟩ := take_mem_lt hx
        have h3 := i1 p h1
        obtain ⟨i, j, r, hi, hj, hr, e⟩ := mem_edgesOf.1 (nth_mem h2)
        rw [e] at h3 ⊢
        refine ⟨i, j, r, hi, hj, ?_, rfl⟩
        unfold delT
        rw [if_neg (fun c => by unfold befE at h3; simp only at h3; omega)]
        exact hr
      · obtain ⟨p, h1, h2, rfl⟩ := drop_mem_ge hx
        have h3 := hbig p h1 h2
        obtain ⟨i, j, r, hi, hj, hr, e⟩ := mem_edgesOf.1 (nth_mem h2)
        rw [e] at h3 ⊢
        refine ⟨i, j, r, hi, hj, ?_, rfl⟩
        unfold delT
        rw [if_neg (fun c => by simp only at h3; omega)]
        exact hr
    · rintro ⟨i, j, r, hi, hj, hr, rfl⟩
      unfold delT at hr
      by_cases c : i = a ∧ j = b
      · rw [if_pos c] at hr; cases hr
      · rw [if_neg c] at hr
        have hx : (⟨(i : Int), (j : Int), ofR r⟩ : Edge) ∈ edgesOf n t := mem_edgesOf.2 ⟨i, j, r, hi, hj, hr, rfl⟩
        obtain ⟨p, hp, e⟩ := mem_nth hx
        by_cases d : p < k
        · left
          rw [← e, nth_get hp]
          exact List.mem_take_iff_getElem.2 ⟨p, by omega, rfl⟩
        · right
          have d2 : p ≠ k := fun d2 => by
            rw [← d2, e] at z2 z3
            have z2 : (i : Int) = a := z2
            have z3 : (j : Int) = b := z3
            omega
          rw [← e, nth_get hp]
          exact List.mem_drop_iff_getElem.2 ⟨p - (k + 1), by omega, by congr 1; omega⟩
end Go.Ab.M
end

section
/-
  PLAIN LAW: AN EDGE GOES, BY THE PROGRAM.
-/
namespace Go.Ab.M
open Go.Proofs Go.Ab
set_option linter.unusedVariables false
set_option linter.unusedSimpArgs false

abbrev Ad := Nat × Nat × _root_.Rat
def adT (t : Tab) (x : Ad) : Tab := updT t x.1 x.2.1 ((t x.1 x.2.1).getD 0 + x.2.2)
def accT (t : Tab) (l : List Ad) : Tab := l.foldl adT t
theorem accT_snoc (t : Tab) (l : List Ad) (x : Ad) : accT t (l ++ [x]) = adT (accT t l) x := by unfold accT; rw [List.foldl_append]; rfl
theorem accT_off : ∀ (l : List Ad) (t : Tab) {i k : Nat}, (∀ x, x ∈ l → ¬ (i = x.1 ∧ k = x.2.1)) → accT t l i k = t i k
  | [], t, i, k, _ => rfl
  | x :: l, t, i, k, h => by
    show accT (adT t x) l i k = _
    rw [accT_off l _ fun y hy => h y (by simp [hy])]
    unfold adT updT
    rw [if_neg (h x (by simp))]
theorem accT_congr : ∀ (l : List Ad) {t t' : Tab}, (∀ i k, t i k = t' i k) → ∀ i k, accT t l i k = accT t' l i k
  | [], t, t', h, i, k => h i k
  | x :: l, t, t', h, i, k => accT_congr l (fun i k => by unfold adT updT; rw [h x.1 x.2.1]; split; rfl; exact h i k) i k
theorem accT_del {a b : Nat} : ∀ (l : List Ad) (t : Tab), (∀ x, x ∈ l → ¬ (x.1 = a ∧ x.2.1 = b)) → ∀ i k, accT (delT t a b) l i k = delT (accT t l) a b i k
  | [], t, _, i, k => rfl
  | x :: l, t, h, i, k => by
    show accT (adT (delT t a b) x) l i k = delT (accT (adT t x) l) a b i k
    rw [← accT_del l _ fun y hy => h y (by simp [hy])]
    refine accT_congr l (fun i k => ?_) i k
    have hx := h x (by simp)
    unfold adT updT delT
    dsimp only
    rw [if_neg hx]
    by_cases c : i = x.1 ∧ k = x.2.1
    · rw [if_pos c]
      by_cases d : i = a ∧ k = b
      · exact absurd ⟨by omega, by omega⟩ hx
      · rw [if_neg d, if_pos c]
    · rw [if_neg c]
      by_cases d : i = a ∧ k = b
      · rw [if_pos d, if_pos d]
      · rw [if_neg d, if_neg d, if_neg c]
/-- pairs apart: nothing is added twice -/
def ApL (l : List Ad) : Prop := l.Pairwise fun x y => ¬ (x.1 = y.1 ∧ x.2.1 = y.2.1)
theorem accT_at {l : List Ad} (h : ApL l) {t : Tab} {p : Nat} (hp : p < l.length) : accT t (l.take p) (nth l p).1 (nth l p).2.1 = t (nth l p).1 (nth l p).2.1 := by
  refine accT_off _ _ fun x hx hc => ?_
  obtain ⟨j, hj, e⟩ := List.getElem_of_mem hx
  rw [List.length_take] at hj
  have := List.pairwise_iff_getElem.1 h j p (by omega) hp (by omega)
  rw [nth_get hp] at hc
  rw [List.getElem_take] at e
  rw [e] at this
  exact this ⟨hc.1.symm, hc.2.symm⟩
theorem accT_sz {s m : Nat} {t : Tab} (ht : szT s t) (hs : 0 < s) {l : List Ad} (h : ApL l) (hl : ∀ x, x ∈ l → szQ m x.2.2) : ∀ p, p ≤ l.length → szT (s + m + 1) (accT t (l.take p)) := fun p => by
  induction p with
  | zero => exact fun _ i k q hq => (ht i k q hq).mono (by omega)
  | succ p ih =>
    intro hp
    have hp' : p < l.length := by omega
    rw [take_nth hp', accT_snoc]
    intro i k q hq
    unfold adT updT at hq
    by_cases c : i = (nth l p).1 ∧ k = (nth l p).2.1
    · rw [if_pos c, accT_at h hp'] at hq
      cases hq
      exact szQ.add (ht.getD hs _ _) (hl _ (nth_mem hp'))
    · rw [if_neg c] at hq
      exact ih (by omega) i k q hq
theorem edgesOf_le {n : Nat} (hn : n ≤ 480) (t : Tab) : (edgesOf n t).length ≤ 230400 := Nat.le_trans (edgesOf_len n t) (nn_le hn)
theorem nth_app0 {α : Type} [Inhabited α] {l m : List α} {x : α} {k : Nat} (h : l.length = k) : nth (l ++ [x] ++ m) k = x := by
  subst h
  simp [nth, List.getD]
theorem set_app0 {α : Type} {l m : List α} {x y : α} {k : Nat} (h : l.length = k) : (l ++ [x] ++ m).set k y = l ++ y :: m := by
  subst h
  simp
theorem set_split {α : Type} (y : α) : ∀ {l : List α} {k : Nat}, k < l.length → l.set k y = l.take k ++ y :: l.drop (k + 1)
  | [], k, h => by simp at h
  | x :: l, 0, h => by simp
  | x :: l, k + 1, h => by simp [set_split y (l := l) (k := k) (by simpa using h)]
/-- what one step of the loop works with -/
theorem one_put {n : Nat} (hn : n ≤ 480) {u : Tab} {x y : Nat} (hx : x < n) (hy : y < n) {z : _root_.Rat} {K : Nat} (hK0 : 0 < K) (hK : K ≤ 1000000) (hu : szT K u) (hz : szQ K z) :
    edge_find (edgesOf n u) (x : Int) (y : Int) = some (((plE (edgesOf n u) x y : Nat) : Int), (u x y).isSome) ∧
    (u x y = none → edges_put (edgesOf n u) [(⟨(x : Int), (y : Int), Rat.mk false [] []⟩ : Edge)] ((plE (edgesOf n u) x y : Nat) : Int) 1 = some ((edgesOf n u).take (plE (edgesOf n u) x y) ++ [(⟨(x : Int), (y : Int), Rat.mk false [] []⟩ : Edge)] ++ (edgesOf n u).drop (plE (edgesOf n u) x y)) ∧
      nth ((edgesOf n u).take (plE (edgesOf n u) x y) ++ [(⟨(x : Int), (y : Int), Rat.mk false [] []⟩ : Edge)] ++ (edgesOf n u).drop (plE (edgesOf n u) x y)) (plE (edgesOf n u) x y) = (⟨(x : Int), (y : Int), Rat.mk false [] []⟩ : Edge) ∧
      plE (edgesOf n u) x y < ((edgesOf n u).take (plE (edgesOf n u) x y) ++ [(⟨(x : Int), (y : Int), Rat.mk false [] []⟩ : Edge)] ++ (edgesOf n u).drop (plE (edgesOf n u) x y)).length ∧
      ratio_Add (Rat.mk false [] []) (ofR z) = some (ofR (0 + z)) ∧
      ((edgesOf n u).take (plE (edgesOf n u) x y) ++ [(⟨(x : Int), (y : Int), Rat.mk false [] []⟩ : Edge)] ++ (edgesOf n u).drop (plE (edgesOf n u) x y)).set (plE (edgesOf n u) x y) (⟨(x : Int), (y : Int), ofR (0 + z)⟩ : Edge) = edgesOf n (adT u (x, y, z))) ∧
    (∀ q, u x y = some q → nth (edgesOf n u) (plE (edgesOf n u) x y) = ⟨(x : Int), (y : Int), ofR q⟩ ∧ plE (edgesOf n u) x y < (edgesOf n u).length ∧ ratio_Add (ofR q) (ofR z) = some (ofR (q + z)) ∧
      (edgesOf n u).set (plE (edgesOf n u) x y) ⟨(x : Int), (y : Int), ofR (q + z)⟩ = edgesOf n (adT u (x, y, z))) := by
  have hs := edgesOf_sorted n u
  have hl := edgesOf_le hn u
  have hk := plE_le (edgesOf n u) (x : Int) (y : Int)
  have hput := fun q => put_is hx hy (t := u) q (m := if (u x y).isSome = true then plE (edgesOf n u) x y + 1 else plE (edgesOf n u) x y) rfl
  have hz' := hasE_at hs (a := (x : Int)) (b := (y : Int))
  rw [has_edgesOf hx hy] at hz'
  have hmem : ∀ q, u x y = some q → nth (edgesOf n u) (plE (edgesOf n u) x y) = ⟨(x : Int), (y : Int), ofR q⟩ ∧ plE (edgesOf n u) x y < (edgesOf n u).length := fun q hq => by
    obtain ⟨z1, z2, z3⟩ := hz'.1 (by rw [hq]; rfl)
    refine ⟨?_, z1⟩
    obtain ⟨i, k, r, hi, hk, hr, e⟩ := mem_edgesOf.1 (nth_mem z1)
    rw [e] at z2 z3 ⊢
    have z2 : (i : Int) = x := z2
    have z3 : (k : Int) = y := z3
    have e1 : i = x := by omega
    have e2 : k = y := by omega
    subst e1; subst e2
    rw [hq] at hr
    cases hr
    rfl
  refine ⟨?_, fun hnone => ?_, fun q hq => ?_⟩
  · rw [find_eq hs (by omega), has_edgesOf hx hy]
  · rw [hnone] at hput
    simp only [Option.isSome_none, Bool.false_eq_true, if_false] at hput
    have ht : ((edgesOf n u).take (plE (edgesOf n u) x y)).length = plE (edgesOf n u) x y := by rw [List.length_take]; omega
    refine ⟨?_, nth_app0 ht, by rw [List.length_append, List.length_append, ht, List.length_singleton]; omega, ?_, ?_⟩
    · have g : (decide ((none : Option Nat).getD 1 = 1) && (decide ([(⟨(x : Int), (y : Int), Rat.mk false [] []⟩ : Edge)].length = 1) && (decide (0 ≤ ((plE (edgesOf n u) x y : Nat) : Int)) && (decide (((plE (edgesOf n u) x y : Nat) : Int) ≤ ((edgesOf n u).length : Int)) && decide ((edgesOf n u).length ≤ 1000000000))))) = true := by
        simp only [Bool.and_eq_true, decide_eq_true_eq]
        exact ⟨rfl, rfl, by omega, by omega, by omega⟩
      unfold edges_put
      rw [g, Int.toNat_natCast]; rfl
    · have z0 : szQ K (0 : _root_.Rat) := (SZ.zero 1 0).sz (Nat.one_lt_pow (by omega) (by decide)) (Nat.pow_pos (by decide)) hK0
      have := ratio_Add_eq (n := K) (x := Rat.mk false [] []) (y := ofR z) ⟨Wds.nil, Wds.nil, Nat.zero_le _, Nat.zero_le _⟩ hz.ok hK0 hK
      rw [qR_ofR] at this
      exact this
    · rw [set_app0 ht, hput]
      unfold adT
      rw [hnone]; rfl
  · obtain ⟨m1, m2⟩ := hmem q hq
    rw [hq] at hput
    simp only [Option.isSome_some, if_true] at hput
    refine ⟨m1, m2, ?_, ?_⟩
    · have := ratio_Add_eq (n := K) (hu x y q hq).ok hz.ok hK0 hK
      rw [qR_ofR, qR_ofR] at this
      exact this
    · rw [set_split _ m2, hput]
      unfold adT
      rw [hq]; rfl
theorem edges_T {g : Graph} {I M O s : Nat} (h : RGr g I M O) (hg : g.Ok s) : g.Edges = edgesOf (I + M + O) g.T := by
  refine edges_uniq h.s (edgesOf_sorted _ _) fun x => ⟨fun hx => ?_, fun hx => ?_⟩
  · have he := h.e x hx
    refine mem_edgesOf.2 ⟨x.From.toNat, x.To.toNat, qR x.W, by omega, by omega, T_mem h hx, ?_⟩
    rw [← W_of h hg hx, Int.toNat_of_nonneg (by omega), Int.toNat_of_nonneg (by omega)]
  · obtain ⟨i, k, q, hi, hk, hq, rfl⟩ := mem_edgesOf.1 hx
    obtain ⟨w, hw, h1, h2, h3⟩ := T_some h hq
    have : w = ⟨(i : Int), (k : Int), ofR q⟩ := by
      rw [← h1, ← h2, ← h3, ← W_of h hg hw]
    rw [← this]; exact hw
end Go.Ab.M
end

section
/-
  PLAIN LAW: AN EDGE GOES, IN FRONT AND BACK, BY THE PROGRAM: as a table.
-/
namespace Go.Ab.M
open Go.Proofs Go.Ab
set_option linter.unusedVariables false
set_option linter.unusedSimpArgs false

def adF (n : Nat) (t : Tab) (a b : Nat) : List Ad := (rowN n t b).map fun k => (a, k, (t a b).getD 0 * (t b k).getD 0)
def adB (n : Nat) (t : Tab) (a b : Nat) : List Ad := (colN n t a).map fun i => (i, b, (t a b).getD 0 * (t i a).getD 0)
theorem adF_ap (n : Nat) (t : Tab) (a b : Nat) : ApL (adF n t a b) := List.pairwise_map.2 ((rowN_nd n t b).imp fun {x y} h => fun c => h c.2)
theorem adB_ap (n : Nat) (t : Tab) (a b : Nat) : ApL (adB n t a b) := List.pairwise_map.2 ((colN_nd n t a).imp fun {x y} h => fun c => h c.1)
theorem adF_sz {s n : Nat} {t : Tab} (h : szT s t) (hs : 0 < s) (a b : Nat) : ∀ x, x ∈ adF n t a b → szQ (s + s) x.2.2 := fun x hx => by
  obtain ⟨k, _, rfl⟩ := List.mem_map.1 hx
  exact (h.getD hs _ _).mul (h.getD hs _ _) hs
theorem adB_sz {s n : Nat} {t : Tab} (h : szT s t) (hs : 0 < s) (a b : Nat) : ∀ x, x ∈ adB n t a b → szQ (s + s) x.2.2 := fun x hx => by
  obtain ⟨k, _, rfl⟩ := List.mem_map.1 hx
  exact (h.getD hs _ _).mul (h.getD hs _ _) hs
theorem delT_sz {s : Nat} {t : Tab} (h : szT s t) (a b : Nat) : szT s (delT t a b) := fun i k q hq => by
  unfold delT at hq
  by_cases c : i = a ∧ k = b
  · rw [if_pos c] at hq; cases hq
  · rw [if_neg c] at hq; exact h i k q hq
section
variable {g : Graph} {I M O s : Nat} (h : RGr g I M O) (hg : g.Ok s) (hs : 0 < s) (hK : 3 * s + 1 ≤ 1000000) {a b : Nat} {c0 : _root_.Rat} (hab : g.T a b = some c0)
include h hg hs hK hab
theorem goesF {x0 : List Int} {idx : Int} (hi : (nth g.Edges idx.toNat).W = ofR c0) :
    edge_goes_l (a : Int) g idx (g.outs (b : Int)) x0 0 (edgesOf (I + M + O) (delT g.T a b)) = some (edgesOf (I + M + O) (accT (delT g.T a b) (adF (I + M + O) g.T a b))) := by
  have i2 := h.i2; have m2 := h.m2; have o2 := h.o2
  have hT := T_sz h hg hs
  have ap := adF_ap (I + M + O) g.T a b
  have asz := adF_sz (n := I + M + O) hT hs a b
  have al : (adF (I + M + O) g.T a b).length = (rowN (I + M + O) g.T b).length := List.length_map _
  have rl := rowN_len (I + M + O) g.T b
  have ol := (nth_map_eq (outs_to h b)).1
  have ha : a < I + M + O := by have := T_lt h hab; omega
  unfold edge_goes_l
  have := loop_run (round := fun σ : Nat × List Edge => edge_goes_l_rd (a : Int) g idx (g.outs (b : Int)) x0 σ.1 σ.2) (fun p => (p, edgesOf (I + M + O) (accT (delT g.T a b) ((adF (I + M + O) g.T a b).take p)))) (adF (I + M + O) g.T a b).length (r := edgesOf (I + M + O) (accT (delT g.T a b) ((adF (I + M + O) g.T a b).take (adF (I + M + O) g.T a b).length))) (fun p hp => ?_) ?_ (by simp only [FU]; omega)
  · rw [List.take_length] at this
    rw [List.take_zero] at this
    exact this
  · have hr : p < (rowN (I + M + O) g.T b).length := by omega
    obtain ⟨b1, b2, b3⟩ := outs_at h hr
    have kb := (mem_rowN.1 (nth_mem hr)).1
    have hn : nth (adF (I + M + O) g.T a b) p = (a, nth (rowN (I + M + O) g.T b) p, c0 * qR (nth (g.outs (b : Int)) p).W) := by
      unfold adF
      rw [nth_mapA hr, hab, b3]; rfl
    have usz := accT_sz (delT_sz hT a b) hs ap asz p (by omega)
    have ez := asz _ (nth_mem hp)
    rw [hn] at ez
    have ez : szQ (s + s) (c0 * qR (nth (g.outs (b : Int)) p).W) := ez
    have hK' : s + (s + s) + 1 ≤ 1000000 := by omega
    obtain ⟨f1, f2, f3⟩ := one_put (n := I + M + O) (by omega) (u := accT (delT g.T a b) ((adF (I + M + O) g.T a b).take p)) (x := a) (y := nth (rowN (I + M + O) g.T b) p) ha kb (z := c0 * qR (nth (g.outs (b : Int)) p).W) (K := s + (s + s) + 1) (by omega) hK' usz (ez.mono (by omega))
    have mul := ratio_Mul_eq (n := s) (x := ofR c0) (y := (nth (g.outs (b : Int)) p).W) (hT a b c0 hab).ok (hg.mem b1) (by omega)
    rw [qR_ofR] at mul
    have e2 : accT (delT g.T a b) ((adF (I + M + O) g.T a b).take (p + 1)) = adT (accT (delT g.T a b) ((adF (I + M + O) g.T a b).take p)) (a, nth (rowN (I + M + O) g.T b) p, c0 * qR (nth (g.outs (b : Int)) p).W) := by
      rw [take_nth hp, accT_snoc, hn]
    show edge_goes_l_rd (a : Int) g idx (g.outs (b : Int)) x0 p (edgesOf (I + M + O) (accT (delT g.T a b) ((adF (I + M + O) g.T a b).take p))) = some (.inl (p + 1, edgesOf (I + M + O) (accT (delT g.T a b) ((adF (I + M + O) g.T a b).take (p + 1)))))
    rw [e2]
    generalize accT (delT g.T a b) ((adF (I + M + O) g.T a b).take p) = u at *
    generalize nth (rowN (I + M + O) g.T b) p = k at *
    have g1 : ((p : Nat) : Int) < ((g.outs (b : Int)).length : Int) := by omega
    have g1' : p < (g.outs (b : Int)).length := by omega
    have e3 : ∀ m : Nat, ((m : Nat) : Int).toNat = m := fun m => Int.toNat_natCast m
    have g2 : ∀ m : Nat, (0 : Int) ≤ ((m : Nat) : Int) := fun m => by omega
    have ii : inK .i64 (((p : Nat) : Int) + 1) = true := inK_i64 (by omega) (by omega)
    cases hu : u a k with
    | none =>
      rw [hu] at f1
      obtain ⟨t1, t2, t3, t4, t5⟩ := f2 hu
      simp only [edge_goes_l_rd, edge_Front_1, decide_eq_true g1, decide_eq_true g1', cond_true, Option.bind_some, b2, f1, Option.isSome_none, Bool.not_false, t1, decide_eq_true (g2 _), e3, decide_eq_true t3, hi, mul, t2, t4, t5, ii]
    | some q =>
      rw [hu] at f1
      obtain ⟨t1, t2, t3, t4⟩ := f3 q hu
      simp only [edge_goes_l_rd, edge_Front_1, decide_eq_true g1, decide_eq_true g1', cond_true, Option.bind_some, b2, f1, Option.isSome_some, Bool.not_true, cond_false, decide_eq_true (g2 _), e3, decide_eq_true t2, hi, mul, t1, t3, t4, ii]
  · have g1 : ¬ (((adF (I + M + O) g.T a b).length : Nat) : Int) < ((g.outs (b : Int)).length : Int) := by omega
    simp only [edge_goes_l_rd, decide_eq_false g1, cond_false]
theorem goesB {x0 : List Int} {idx : Int} (hi : (nth g.Edges idx.toNat).W = ofR c0) :
    edge_goes_l_2 (b : Int) g idx (g.ins (a : Int)) x0 0 (edgesOf (I + M + O) (delT g.T a b)) = some (edgesOf (I + M + O) (accT (delT g.T a b) (adB (I + M + O) g.T a b))) := by
  have i2 := h.i2; have m2 := h.m2; have o2 := h.o2
  have hT := T_sz h hg hs
  have ap := adB_ap (I + M + O) g.T a b
  have asz := adB_sz (n := I + M + O) hT hs a b
  have al : (adB (I + M + O) g.T a b).length = (colN (I + M + O) g.T a).length := List.length_map _
  have rl := colN_len (I + M + O) g.T a
  have ol := (nth_map_eq (ins_from h a)).1
  have hb : b < I + M + O := by have := T_lt h hab; omega
  unfold edge_goes_l_2
  have := loop_run (round := fun σ : Nat × List Edge => edge_goes_l_2_rd (b : Int) g idx (g.ins (a : Int)) x0 σ.1 σ.2) (fun p => (p, edgesOf (I + M + O) (accT (delT g.T a b) ((adB (I + M + O) g.T a b).take p)))) (adB (I + M + O) g.T a b).length (r := edgesOf (I + M + O) (accT (delT g.T a b) ((adB (I + M + O) g.T a b).take (adB (I + M + O) g.T a b).length))) (fun p hp => ?_) ?_ (by simp only [FU]; omega)
  · rw [List.take_length] at this
    rw [List.take_zero] at this
    exact this
  · have hr : p < (colN (I + M + O) g.T a).length := by omega
    obtain ⟨b1, b2, b3⟩ := ins_at h hr
    have kb := (mem_colN.1 (nth_mem hr)).1
    have hn : nth (adB (I + M + O) g.T a b) p = (nth (colN (I + M + O) g.T a) p, b, c0 * qR (nth (g.ins (a : Int)) p).W) := by
      unfold adB
      rw [nth_mapA hr, hab, b3]; rfl
    have usz := accT_sz (delT_sz hT a b) hs ap asz p (by omega)
    have ez := asz _ (nth_mem hp)
    rw [hn] at ez
    have ez : szQ (s + s) (c0 * qR (nth (g.ins (a : Int)) p).W) := ez
    have hK' : s + (s + s) + 1 ≤ 1000000 := by omega
    obtain ⟨f1, f2, f3⟩ := one_put (n := I + M + O) (by omega) (u := accT (delT g.T a b) ((adB (I + M + O) g.T a b).take p)) (x := nth (colN (I + M + O) g.T a) p) (y := b) kb hb (z := c0 * qR (nth (g.ins (a : Int)) p).W) (K := s + (s + s) + 1) (by omega) hK' usz (ez.mono (by omega))
    have mul := ratio_Mul_eq (n := s) (x := ofR c0) (y := (nth (g.ins (a : Int)) p).W) (hT a b c0 hab).ok (hg.mem b1) (by omega)
    rw [qR_ofR] at mul
    have e2 : accT (delT g.T a b) ((adB (I + M + O) g.T a b).take (p + 1)) = adT (accT (delT g.T a b) ((adB (I + M + O) g.T a b).take p)) (nth (colN (I + M + O) g.T a) p, b, c0 * qR (nth (g.ins (a : Int)) p).W) := by
      rw [take_nth hp, accT_snoc, hn]
    show edge_goes_l_2_rd (b : Int) g idx (g.ins (a : Int)) x0 p (edgesOf (I + M + O) (accT (delT g.T a b) ((adB (I + M + O) g.T a b).take p))) = some (.inl (p + 1, edgesOf (I + M + O) (accT (delT g.T a b) ((adB (I + M + O) g.T a b).take (p + 1)))))
    rw [e2]
    generalize accT (delT g.T a b) ((adB (I + M + O) g.T a b).take p) = u at *
    generalize nth (colN (I + M + O) g.T a) p = k at *
    have g1 : ((p : Nat) : Int) < ((g.ins (a : Int)).length : Int) := by omega
    have g1' : p < (g.ins (a : Int)).length := by omega
    have e3 : ∀ m : Nat, ((m : Nat) : Int).toNat = m := fun m => Int.toNat_natCast m
    have g2 : ∀ m : Nat, (0 : Int) ≤ ((m : Nat) : Int) := fun m => by omega
    have ii : inK .i64 (((p : Nat) : Int) + 1) = true := inK_i64 (by omega) (by omega)
    cases hu : u k b with
    | none =>
      rw [hu] at f1
      obtain ⟨t1, t2, t3, t4, t5⟩ := f2 hu
      simp only [edge_goes_l_2_rd, edge_Back_1, decide_eq_true g1, decide_eq_true g1', cond_true, Option.bind_some, b2, f1, Option.isSome_none, Bool.not_false, t1, decide_eq_true (g2 _), e3, decide_eq_true t3, hi, mul, t2, t4, t5, ii]
    | some q =>
      rw [hu] at f1
      obtain ⟨t1, t2, t3, t4⟩ := f3 q hu
      simp only [edge_goes_l_2_rd, edge_Back_1, decide_eq_true g1, decide_eq_true g1', cond_true, Option.bind_some, b2, f1, Option.isSome_some, Bool.not_true, cond_false, decide_eq_true (g2 _), e3, decide_eq_true t2, hi, mul, t1, t3, t4, ii]
  · have g1 : ¬ (((adB (I + M + O) g.T a b).length : Nat) : Int) < ((g.ins (a : Int)).length : Int) := by omega
    simp only [edge_goes_l_2_rd, decide_eq_false g1, cond_false]
end
/-- an edge has gone -/
def goT (n : Nat) (t : Tab) (a b : Nat) (back : Bool) : Tab := accT (delT t a b) (if back = true then adB n t a b else adF n t a b)
def Graph.go (g : Graph) (n a b : Nat) (back : Bool) : Graph := ⟨g.Ins, g.Mids, g.Outs, edgesOf n (goT n g.T a b back), g.Gone⟩
theorem has_T {g : Graph} {I M O s : Nat} (h : RGr g I M O) (hg : g.Ok s) {a b : Int} (hh : hasE g.Edges a b = true) : ∃ (x y : Nat) (q : _root_.Rat), a = (x : Int) ∧ b = (y : Int) ∧ g.T x y = some q ∧ x < I + M ∧ I ≤ y ∧ y < I + M + O ∧ x < y := by
  obtain ⟨e, he, rfl, rfl⟩ := hasE_iff.1 hh
  have h1 := h.e e he
  have h2 := T_mem h he
  have := T_lt h h2
  exact ⟨e.From.toNat, e.To.toNat, _, by omega, by omega, h2, by omega, by omega, by omega, by omega⟩
theorem cut_eq {g : Graph} {I M O s : Nat} (h : RGr g I M O) (hg : g.Ok s) {x y : Nat} {q : _root_.Rat} (hT : g.T x y = some q) :
    plE g.Edges x y < g.Edges.length ∧ (nth g.Edges (plE g.Edges x y)).W = ofR q ∧ g.Edges.take (plE g.Edges x y) ++ g.Edges.drop (plE g.Edges x y + 1) = edgesOf (I + M + O) (delT g.T x y) := by
  have e := edges_T h hg
  have hlt := T_lt h hT
  have hx : x < I + M + O := by omega
  have hy : y < I + M + O := by omega
  have hs := edgesOf_sorted (I + M + O) g.T
  have hz := (hasE_at hs (a := (x : Int)) (b := (y : Int))).1 (by rw [has_edgesOf hx hy, hT]; rfl)
  rw [e]
  refine ⟨hz.1, ?_, cut_is hx hy (by rw [hT]; rfl)⟩
  obtain ⟨i, k, r, hi, hk, hr, e2⟩ := mem_edgesOf.1 (nth_mem hz.1)
  have z2 := hz.2.1
  have z3 := hz.2.2
  rw [e2] at z2 z3 ⊢
  have z2 : (i : Int) = x := z2
  have z3 : (k : Int) = y := z3
  have e1 : i = x := by omega
  have e3 : k = y := by omega
  subst e1; subst e3
  rw [hT] at hr
  cases hr
  rfl
/-- what an edge's going tells -/
def Graph.goR (g : Graph) (n : Nat) (a b : Int) (back : Bool) : Graph × Int × Int :=
  if hasE g.Edges a b = true ∧ g.shape.isMid (if back = true then a else b) = true then (g.go n a.toNat b.toNat back, (((if back = true then colN n g.T a.toNat else rowN n g.T b.toNat).length : Nat) : Int), 0) else (⟨0, 0, 0, [], []⟩, 0, 9)
theorem edge_mid_eq {g : Graph} (h : g.shape.sized = true) (v : Int) : edge_mid g v = some (g.shape.isMid v) := by
  have hs := sized_iff.1 h
  simp only [Graph.shape] at hs
  simp (disch := omega) only [edge_mid, Bool.cond_decide, inK_i64, cond_true, Shape.isMid, Graph.shape, ge_iff_le]
  split
  · rename_i h1; simp [h1]
  · rename_i h1; simp [h1]
theorem rsz {g : Graph} (h : g.right = true) : g.shape.sized = true := by
  simp only [Graph.right, Bool.and_eq_true] at h
  exact h.1.1
theorem Front_eq {g : Graph} {I M O s : Nat} (h : RGr g I M O) (hg : g.Ok s) (hs : 0 < s) (hK : 3 * s + 1 ≤ 1000000) (a b : Int) : edge_Front g a b = some (g.goR (I + M + O) a b false) := by
  have i2 := h.i2; have m2 := h.m2; have o2 := h.o2
  have hr := graph_Right_eq (n := s) (by omega) hg
  rw [h.right] at hr
  have el := hg.e
  have hf := find_eq h.s (by omega) a b
  have hm := edge_mid_eq (rsz h.right) b
  unfold Graph.goR
  simp only [Bool.false_eq_true, if_false]
  cases hh : hasE g.Edges a b with
  | false =>
    rw [hh] at hf
    rw [if_neg (fun c => by cases c.1)]
    simp only [edge_Front, hr, hf, Option.bind_some, Bool.not_true, cond_false, Bool.not_false, cond_true]
  | true =>
    rw [hh] at hf
    cases hmid : g.shape.isMid b with
    | false =>
      rw [hmid] at hm
      rw [if_neg (fun c => by cases c.2)]
      simp only [edge_Front, hr, hf, hm, Option.bind_some, Bool.not_true, cond_false, Bool.not_false, cond_true]
    | true =>
      rw [hmid] at hm
      obtain ⟨x, y, q, rfl, rfl, hT, q1, q2, q3, q4⟩ := has_T h hg hh
      obtain ⟨c1, c2, c3⟩ := cut_eq h hg hT
      have go := goesF h hg hs hK hT (x0 := g.Gone) (idx := ((plE g.Edges x y : Nat) : Int)) (by rw [Int.toNat_natCast]; exact c2)
      have ho := graph_Out_eq (n := s) (by omega) hg (y : Int)
      rw [if_pos h.right] at ho
      have ol := (nth_map_eq (outs_to h y)).1
      have g1 : (0 : Int) ≤ ((plE g.Edges x y : Nat) : Int) := by omega
      have cl : slices_Clone_int_int g.Gone = some g.Gone := by
        have := hg.g
        unfold slices_Clone_int_int
        rw [decide_eq_true (by omega)]; rfl
      have ce : slices_Clone_api_Edge_api_Edge_2 g.Edges = some g.Edges := by
        unfold slices_Clone_api_Edge_api_Edge_2
        rw [decide_eq_true (show 0 < g.Edges.length by omega), decide_eq_true (show 0 + g.Edges.length ≤ 2147483648 by omega)]; rfl
      have cut : edges_cut g.Edges ((plE g.Edges x y : Nat) : Int) (((plE g.Edges x y : Nat) : Int) + 1) = some (edgesOf (I + M + O) (delT g.T x y)) := by
        unfold edges_cut
        have e1 : (((plE g.Edges x y : Nat) : Int) + 1).toNat = plE g.Edges x y + 1 := by omega
        rw [decide_eq_true g1, decide_eq_true (show ((plE g.Edges x y : Nat) : Int) < ((plE g.Edges x y : Nat) : Int) + 1 by omega), decide_eq_true (show ((plE g.Edges x y : Nat) : Int) + 1 ≤ (g.Edges.length : Int) by omega), e1, Int.toNat_natCast, c3]
        rfl
      have ii : inK .i64 (((plE g.Edges x y : Nat) : Int) + 1) = true := inK_i64 (by omega) (by omega)
      rw [if_pos ⟨rfl, rfl⟩]
      simp only [edge_Front, hr, hf, hm, ho, edge_goes, decide_eq_true g1, Int.toNat_natCast, decide_eq_true c1, cl, ce, ii, cut, go, Option.bind_some, Bool.not_true, cond_false, cond_true, ol, Graph.go, goT, Bool.false_eq_true, if_false]
theorem Back_eq {g : Graph} {I M O s : Nat} (h : RGr g I M O) (hg : g.Ok s) (hs : 0 < s) (hK : 3 * s + 1 ≤ 1000000) (a b : Int) : edge_Back g a b = some (g.goR (I + M + O) a b true) := by
  have i2 := h.i2; have m2 := h.m2; have o2 := h.o2
  have hr := graph_Right_eq (n := s) (by omega) hg
  rw [h.right] at hr
  have el := hg.e
  have hf := find_eq h.s (by omega) a b
  have hm := edge_mid_eq (rsz h.right) a
  unfold Graph.goR
  simp only [if_true]
  cases hh : hasE g.Edges a b with
  | false =>
    rw [hh] at hf
    rw [if_neg (fun c => by cases c.1)]
    simp only [edge_Back, hr, hf, Option.bind_some, Bool.not_true, cond_false, Bool.not_false, cond_true]
  | true =>
    rw [hh] at hf
    cases hmid : g.shape.isMid a with
    | false =>
      rw [hmid] at hm
      rw [if_neg (fun c => by cases c.2)]
      simp only [edge_Back, hr, hf, hm, Option.bind_some, Bool.not_true, cond_false, Bool.not_false, cond_true]
    | true =>
      rw [hmid] at hm
      obtain ⟨x, y, q, rfl, rfl, hT, q1, q2, q3, q4⟩ := has_T h hg hh
      obtain ⟨c1, c2, c3⟩ := cut_eq h hg hT
      have go := goesB h hg hs hK hT (x0 := g.Gone) (idx := ((plE g.Edges x y : Nat) : Int)) (by rw [Int.toNat_natCast]; exact c2)
      have ho := graph_In_eq (n := s) (by omega) hg (x : Int)
      rw [if_pos h.right] at ho
      have ol := (nth_map_eq (ins_from h x)).1
      have g1 : (0 : Int) ≤ ((plE g.Edges x y : Nat) : Int) := by omega
      have cl : slices_Clone_int_int g.Gone = some g.Gone := by
        have := hg.g
        unfold slices_Clone_int_int
        rw [decide_eq_true (by omega)]; rfl
      have ce : slices_Clone_api_Edge_api_Edge_2 g.Edges = some g.Edges := by
        unfold slices_Clone_api_Edge_api_Edge_2
        rw [decide_eq_true (show 0 < g.Edges.length by omega), decide_eq_true (show 0 + g.Edges.length ≤ 2147483648 by omega)]; rfl
      have cut : edges_cut g.Edges ((plE g.Edges x y : Nat) : Int) (((plE g.Edges x y : Nat) : Int) + 1) = some (edgesOf (I + M + O) (delT g.T x y)) := by
        unfold edges_cut
        have e1 : (((plE g.Edges x y : Nat) : Int) + 1).toNat = plE g.Edges x y + 1 := by omega
        rw [decide_eq_true g1, decide_eq_true (show ((plE g.Edges x y : Nat) : Int) < ((plE g.Edges x y : Nat) : Int) + 1 by omega), decide_eq_true (show ((plE g.Edges x y : Nat) : Int) + 1 ≤ (g.Edges.length : Int) by omega), e1, Int.toNat_natCast, c3]
        rfl
      have ii : inK .i64 (((plE g.Edges x y : Nat) : Int) + 1) = true := inK_i64 (by omega) (by omega)
      rw [if_pos ⟨rfl, rfl⟩]
      simp only [edge_Back, hr, hf, hm, ho, edge_goes_2, decide_eq_true g1, Int.toNat_natCast, decide_eq_true c1, cl, ce, ii, cut, go, Option.bind_some, Bool.not_true, cond_false, cond_true, ol, Graph.go, goT, if_true]
theorem adF_not {g : Graph} {I M O : Nat} (h : RGr g I M O) {n a b : Nat} : ∀ x, x ∈ adF n g.T a b → ¬ (x.1 = a ∧ x.2.1 = b) := fun x hx c => by
  obtain ⟨k, hk, rfl⟩ := List.mem_map.1 hx
  obtain ⟨w, hw⟩ := Option.isSome_iff_exists.1 (mem_rowN.1 hk).2
  have := T_lt h hw
  have := c.2
  dsimp only at this
  omega
theorem adB_not {g : Graph} {I M O : Nat} (h : RGr g I M O) {n a b : Nat} : ∀ x, x ∈ adB n g.T a b → ¬ (x.1 = a ∧ x.2.1 = b) := fun x hx c => by
  obtain ⟨k, hk, rfl⟩ := List.mem_map.1 hx
  obtain ⟨w, hw⟩ := Option.isSome_iff_exists.1 (mem_colN.1 hk).2
  have := T_lt h hw
  have := c.1
  dsimp only at this
  omega
theorem goT_sz {s n : Nat} {t : Tab} (h : szT s t) (hs : 0 < s) (a b : Nat) (back : Bool) : szT (3 * s + 1) (goT n t a b back) := by
  unfold goT
  cases back with
  | true =>
    have := accT_sz (delT_sz h a b) hs (adB_ap n t a b) (adB_sz h hs a b) (adB n t a b).length (Nat.le_refl _)
    rw [List.take_length] at this
    rw [if_pos rfl, show 3 * s + 1 = s + (s + s) + 1 by omega]; exact this
  | false =>
    have := accT_sz (delT_sz h a b) hs (adF_ap n t a b) (adF_sz h hs a b) (adF n t a b).length (Nat.le_refl _)
    rw [List.take_length] at this
    rw [if_neg (by decide), show 3 * s + 1 = s + (s + s) + 1 by omega]; exact this
end Go.Ab.M
end

section
/-
  PLAIN LAW: AN EDGE GOES, BY THE DOCUMENT; its size.
-/
namespace Go.Ab.M
open Go.Proofs Go.Ab
set_option linter.unusedVariables false
set_option linter.unusedSimpArgs false

theorem has_eq {g : Graph} (hl : g.Edges.length ≤ 100000) (a b : Int) : ref19_has g a b = some (hasE g.Edges a b) := by
  have e : ref19_has_l g a b 0 = some (if (List.range g.Edges.length).all (fun i => !((nth g.Edges i).From == a && (nth g.Edges i).To == b)) = true then .inr () else .inl ()) := by
    unfold ref19_has_l
    refine loop_all (round := fun σ => ref19_has_l_rd g a b σ) (fun i => !((nth g.Edges i).From == a && (nth g.Edges i).To == b)) g.Edges.length (.inr ()) (.inl ()) (fun i hi hp => ?_) (fun i hi hp => ?_) (by simp only [ref19_has_l_rd, Int.lt_irrefl, decide_false, cond_false]) (by simp only [FU]; omega)
    · have g1 : ((i : Nat) : Int) < (g.Edges.length : Int) := by omega
      have ii : inK .i64 (((i : Nat) : Int) + 1) = true := inK_i64 (by omega) (by omega)
      rw [Bool.not_eq_true', Bool.and_eq_false_iff] at hp
      by_cases c : ((nth g.Edges i).From == a) = true
      · have d : ((nth g.Edges i).To == b) = false := by
          rcases hp with hp | hp
          · rw [c] at hp; cases hp
          · exact hp
        simp only [ref19_has_l_rd, decide_eq_true g1, decide_eq_true hi, c, d, ii, cond_true, cond_false]
      · have c : ((nth g.Edges i).From == a) = false := by simpa using c
        simp only [ref19_has_l_rd, decide_eq_true g1, decide_eq_true hi, c, ii, cond_true, cond_false]
    · have g1 : ((i : Nat) : Int) < (g.Edges.length : Int) := by omega
      rw [Bool.not_eq_false', Bool.and_eq_true] at hp
      simp only [ref19_has_l_rd, decide_eq_true g1, decide_eq_true hi, hp.1, hp.2, cond_true]
  have hm : ((List.range g.Edges.length).all (fun i => !((nth g.Edges i).From == a && (nth g.Edges i).To == b)) = true) ↔ hasE g.Edges a b = false := by
    rw [List.all_eq_true, ← Bool.not_eq_true, hasE_iff]
    constructor
    · rintro hh ⟨e, he, rfl, rfl⟩
      obtain ⟨i, hi, rfl⟩ := mem_nth he
      have := hh i (List.mem_range.2 hi)
      simp at this
    · intro hh i hi
      rw [List.mem_range] at hi
      rw [Bool.not_eq_true', Bool.and_eq_false_iff]
      by_cases c : (nth g.Edges i).From = a
      · right
        rw [beq_eq_false_iff_ne]
        exact fun d => hh ⟨_, nth_mem hi, c, d⟩
      · left
        rw [beq_eq_false_iff_ne]; exact c
  cases q : hasE g.Edges a b with
  | false => rw [if_pos (hm.2 q)] at e; simp only [ref19_has, e, Option.bind_some, caseS_inr]
  | true => rw [if_neg (fun x => by have := hm.1 x; rw [q] at this; cases this)] at e; simp only [ref19_has, e, Option.bind_some, caseS_inl]
section
variable {g : Graph} {I M O s : Nat} (h : RGr g I M O) (hg : g.Ok s) (hs : 0 < s) (hK : 3 * s + 1 ≤ 1400) {a b : Nat} {c0 : _root_.Rat} (hab : g.T a b = some c0)
include h hg hs hK hab
theorem goLF (O1 : List Bool) (O2 : List Rat) {o : List Bool} {o' : List Rat} (ho : RepR (I + M + O) g.T o o') :
    ∃ o1 o2, ref19_Go_l (a : Int) (b : Int) false (g, ((I + M + O : Nat) : Int), O1, O2) (ofR c0) ((rowN (I + M + O) g.T b).map fun x : Nat => (x : Int)) 0 o o' = some (o1, o2) ∧ RepR (I + M + O) (accT g.T (adF (I + M + O) g.T a b)) o1 o2 := by
  have i2 := h.i2; have m2 := h.m2; have o2 := h.o2
  have hT := T_sz h hg hs
  have ap := adF_ap (I + M + O) g.T a b
  have asz := adF_sz (n := I + M + O) hT hs a b
  have al : (adF (I + M + O) g.T a b).length = (rowN (I + M + O) g.T b).length := List.length_map _
  have rl := rowN_len (I + M + O) g.T b
  have hlt := T_lt h hab
  have ha : a < I + M + O := by omega
  have hb : b < I + M + O := by omega
  have ml : ((rowN (I + M + O) g.T b).map fun x : Nat => (x : Int)).length = (rowN (I + M + O) g.T b).length := List.length_map _
  unfold ref19_Go_l
  have key := loop_inv (round := fun σ : Nat × List Bool × List Rat => ref19_Go_l_rd (a : Int) (b : Int) false (g, ((I + M + O : Nat) : Int), O1, O2) (ofR c0) ((rowN (I + M + O) g.T b).map fun x : Nat => (x : Int)) σ.1 σ.2.1 σ.2.2)
    (Q := fun r : List Bool × List Rat => RepR (I + M + O) (accT g.T (adF (I + M + O) g.T a b)) r.1 r.2)
    (fun p (σ : Nat × List Bool × List Rat) => σ.1 = p ∧ RepR (I + M + O) (accT g.T ((adF (I + M + O) g.T a b).take p)) σ.2.1 σ.2.2) (adF (I + M + O) g.T a b).length (0, o, o') ⟨rfl, ho⟩ ?_ ?_ (by simp only [FU]; omega)
  · obtain ⟨⟨r1, r2⟩, k1, k2⟩ := key
    exact ⟨r1, r2, k1, k2⟩
  · rintro _ ⟨p, u1, u2⟩ hp ⟨rfl, hu⟩
    dsimp only at hp hu ⊢
    have hr : p < (rowN (I + M + O) g.T b).length := by omega
    have hk := mem_rowN.1 (nth_mem hr)
    obtain ⟨w, hw⟩ := Option.isSome_iff_exists.1 hk.2
    have hlt2 := T_lt h hw
    have hn : nth (adF (I + M + O) g.T a b) p = (a, nth (rowN (I + M + O) g.T b) p, c0 * w) := by
      unfold adF
      rw [nth_mapA hr, hab, hw]; rfl
    have usz := accT_sz hT hs ap asz p (by omega)
    have ez := asz _ (nth_mem hp)
    rw [hn] at ez
    have ez : szQ (s + s) (c0 * w) := ez
    have off : accT g.T ((adF (I + M + O) g.T a b).take p) b (nth (rowN (I + M + O) g.T b) p) = some w := by
      rw [accT_off _ _ fun x hx c => ?_, hw]
      obtain ⟨k, _, rfl⟩ := List.mem_map.1 (List.mem_of_mem_take hx)
      have := c.1
      dsimp only at this
      omega
    have e2 : accT g.T ((adF (I + M + O) g.T a b).take (p + 1)) = updT (accT g.T ((adF (I + M + O) g.T a b).take p)) a (nth (rowN (I + M + O) g.T b) p) ((accT g.T ((adF (I + M + O) g.T a b).take p) a (nth (rowN (I + M + O) g.T b) p)).getD 0 + c0 * w) := by
      rw [take_nth hp, accT_snoc, hn]; rfl
    have hmn : nth ((rowN (I + M + O) g.T b).map fun x : Nat => (x : Int)) p = ((nth (rowN (I + M + O) g.T b) p : Nat) : Int) := nth_mapA hr
    generalize accT g.T ((adF (I + M + O) g.T a b).take p) = u at *
    have kl := hk.1
    have lb := Label_eq (a := g.Ins) (b := g.Mids) (c := g.Outs) (es := g.Edges) (gn := g.Gone) hu (by omega) hb kl
    rw [hu.lab _ _ _ hb kl off] at lb
    have ml' := ref08_Mul_eq (n := s) (x := ofR c0) (y := ofR w) (hT a b c0 hab).ok (hT _ _ _ hw).ok hs (by omega)
    rw [qR_ofR, qR_ofR] at ml'
    have ad := Add_eq (a := g.Ins) (b := g.Mids) (c := g.Outs) (es := g.Edges) (gn := g.Gone) hu (by omega) (s := s + (s + s) + 1) usz (by omega) (by omega) ha kl (q := c0 * w) (ez.mono (by omega))
    have pu := hu.put ha kl ((u a (nth (rowN (I + M + O) g.T b) p)).getD 0 + c0 * w)
    rw [← e2] at pu
    refine ⟨(p + 1, _, _), ?_, rfl, pu⟩
    have g1 : ((p : Nat) : Int) < ((((rowN (I + M + O) g.T b).map fun x : Nat => (x : Int)).length : Nat) : Int) := by omega
    have g1' : p < ((rowN (I + M + O) g.T b).map fun x : Nat => (x : Int)).length := by omega
    have ii : inK .i64 (((p : Nat) : Int) + 1) = true := inK_i64 (by omega) (by omega)
    simp only [ref19_Go_l_rd, decide_eq_true g1, decide_eq_true g1', cond_true, cond_false, hmn, lb, ml', ad, Option.bind_some, ii]
  · rintro ⟨p, u1, u2⟩ ⟨hp, hu⟩
    dsimp only at hp hu ⊢
    subst hp
    rw [List.take_length] at hu
    refine ⟨(u1, u2), ?_, hu⟩
    have g1 : ¬ (((adF (I + M + O) g.T a b).length : Nat) : Int) < ((((rowN (I + M + O) g.T b).map fun x : Nat => (x : Int)).length : Nat) : Int) := by omega
    simp only [ref19_Go_l_rd, decide_eq_false g1, cond_false]
theorem goLB (O1 : List Bool) (O2 : List Rat) {o : List Bool} {o' : List Rat} (ho : RepR (I + M + O) g.T o o') :
    ∃ o1 o2, ref19_Go_l (a : Int) (b : Int) true (g, ((I + M + O : Nat) : Int), O1, O2) (ofR c0) ((colN (I + M + O) g.T a).map fun x : Nat => (x : Int)) 0 o o' = some (o1, o2) ∧ RepR (I + M + O) (accT g.T (adB (I + M + O) g.T a b)) o1 o2 := by
  have i2 := h.i2; have m2 := h.m2; have o2 := h.o2
  have hT := T_sz h hg hs
  have ap := adB_ap (I + M + O) g.T a b
  have asz := adB_sz (n := I + M + O) hT hs a b
  have al : (adB (I + M + O) g.T a b).length = (colN (I + M + O) g.T a).length := List.length_map _
  have rl := colN_len (I + M + O) g.T a
  have hlt := T_lt h hab
  have ha : a < I + M + O := by omega
  have hb : b < I + M + O := by omega
  have ml : ((colN (I + M + O) g.T a).map fun x : Nat => (x : Int)).length = (colN (I + M + O) g.T a).length := List.length_map _
  unfold ref19_Go_l
  have key := loop_inv (round := fun σ : Nat × List Bool × List Rat => ref19_Go_l_rd (a : Int) (b : Int) true (g, ((I + M + O : Nat) : Int), O1, O2) (ofR c0) ((colN (I + M + O) g.T a).map fun x : Nat => (x : Int)) σ.1 σ.2.1 σ.2.2)
    (Q := fun r : List Bool × List Rat => RepR (I + M + O) (accT g.T (adB (I + M + O) g.T a b)) r.1 r.2)
    (fun p (σ : Nat × List Bool × List Rat) => σ.1 = p ∧ RepR (I + M + O) (accT g.T ((adB (I + M + O) g.T a b).take p)) σ.2.1 σ.2.2) (adB (I + M + O) g.T a b).length (0, o, o') ⟨rfl, ho⟩ ?_ ?_ (by simp only [FU]; omega)
  · obtain ⟨⟨r1, r2⟩, k1, k2⟩ := key
    exact ⟨r1, r2, k1, k2⟩
  · rintro _ ⟨p, u1, u2⟩ hp ⟨rfl, hu⟩
    dsimp only at hp hu ⊢
    have hr : p < (colN (I + M + O) g.T a).length := by omega
    have hk := mem_colN.1 (nth_mem hr)
    obtain ⟨w, hw⟩ := Option.isSome_iff_exists.1 hk.2
    have hlt2 := T_lt h hw
    have hn : nth (adB (I + M + O) g.T a b) p = (nth (colN (I + M + O) g.T a) p, b, c0 * w) := by
      unfold adB
      rw [nth_mapA hr, hab, hw]; rfl
    have usz := accT_sz hT hs ap asz p (by omega)
    have ez := asz _ (nth_mem hp)
    rw [hn] at ez
    have ez : szQ (s + s) (c0 * w) := ez
    have off : accT g.T ((adB (I + M + O) g.T a b).take p) (nth (colN (I + M + O) g.T a) p) a = some w := by
      rw [accT_off _ _ fun x hx c => ?_, hw]
      obtain ⟨k, _, rfl⟩ := List.mem_map.1 (List.mem_of_mem_take hx)
      have := c.2
      dsimp only at this
      omega
    have e2 : accT g.T ((adB (I + M + O) g.T a b).take (p + 1)) = updT (accT g.T ((adB (I + M + O) g.T a b).take p)) (nth (colN (I + M + O) g.T a) p) b ((accT g.T ((adB (I + M + O) g.T a b).take p) (nth (colN (I + M + O) g.T a) p) b).getD 0 + c0 * w) := by
      rw [take_nth hp, accT_snoc, hn]; rfl
    have hmn : nth ((colN (I + M + O) g.T a).map fun x : Nat => (x : Int)) p = ((nth (colN (I + M + O) g.T a) p : Nat) : Int) := nth_mapA hr
    generalize accT g.T ((adB (I + M + O) g.T a b).take p) = u at *
    have kl := hk.1
    have lb := Label_eq (a := g.Ins) (b := g.Mids) (c := g.Outs) (es := g.Edges) (gn := g.Gone) hu (by omega) kl ha
    rw [hu.lab _ _ _ kl ha off] at lb
    have ml' := ref08_Mul_eq (n := s) (x := ofR w) (y := ofR c0) (hT _ _ _ hw).ok (hT a b c0 hab).ok hs (by omega)
    rw [qR_ofR, qR_ofR, Rat.mul_comm] at ml'
    have ad := Add_eq (a := g.Ins) (b := g.Mids) (c := g.Outs) (es := g.Edges) (gn := g.Gone) hu (by omega) (s := s + (s + s) + 1) usz (by omega) (by omega) kl hb (q := c0 * w) (ez.mono (by omega))
    have pu := hu.put kl hb ((u (nth (colN (I + M + O) g.T a) p) b).getD 0 + c0 * w)
    rw [← e2] at pu
    refine ⟨(p + 1, _, _), ?_, rfl, pu⟩
    have g1 : ((p : Nat) : Int) < ((((colN (I + M + O) g.T a).map fun x : Nat => (x : Int)).length : Nat) : Int) := by omega
    have g1' : p < ((colN (I + M + O) g.T a).map fun x : Nat => (x : Int)).length := by omega
    have ii : inK .i64 (((p : Nat) : Int) + 1) = true := inK_i64 (by omega) (by omega)
    simp only [ref19_Go_l_rd, decide_eq_true g1, decide_eq_true g1', cond_true, cond_false, hmn, lb, ml', ad, Option.bind_some, ii]
  · rintro ⟨p, u1, u2⟩ ⟨hp, hu⟩
    dsimp only at hp hu ⊢
    subst hp
    rw [List.take_length] at hu
    refine ⟨(u1, u2), ?_, hu⟩
    have g1 : ¬ (((adB (I + M + O) g.T a b).length : Nat) : Int) < ((((colN (I + M + O) g.T a).map fun x : Nat => (x : Int)).length : Nat) : Int) := by omega
    simp only [ref19_Go_l_rd, decide_eq_false g1, cond_false]
end
theorem Go_eq {g : Graph} {I M O s : Nat} (h : RGr g I M O) (hg : g.Ok s) (hs : 0 < s) (hK : 3 * s + 1 ≤ 1400) (a b : Int) (back : Bool) : ref19_Go g a b back = some (g.goR (I + M + O) a b back) := by
  have i2 := h.i2; have m2 := h.m2; have o2 := h.o2
  have hr := ref17_Right_eq hg hs (by omega)
  rw [h.right] at hr
  have hh := has_eq (g := g) hg.e a b
  have ma := ref17_Mid_eq (rsz h.right) a
  have mb := ref17_Mid_eq (rsz h.right) b
  unfold Graph.goR
  cases back with
  | false =>
    simp only [Bool.false_eq_true, if_false]
    cases hE : hasE g.Edges a b with
    | false =>
      rw [hE] at hh
      rw [if_neg (fun c => by cases c.1)]
      simp only [ref19_Go, hr, hh, mb, Option.bind_some, Bool.not_true, cond_false, Bool.not_false, cond_true]
    | true =>
      rw [hE] at hh
      cases hmid : g.shape.isMid b with
      | false =>
        rw [hmid] at mb
        rw [if_neg (fun c => by cases c.2)]
        simp only [ref19_Go, hr, hh, mb, Option.bind_some, Bool.not_true, cond_false, Bool.not_false, cond_true]
      | true =>
        rw [hmid] at mb
        rw [if_pos ⟨rfl, rfl⟩]
        obtain ⟨x, y, q, rfl, rfl, hT, q1, q2, q3, q4⟩ := has_T h hg hE
        obtain ⟨o, o', b1, b2⟩ := ref18_Of_eq h hg
        have b3 := Label_eq (a := g.Ins) (b := g.Mids) (c := g.Outs) (es := g.Edges) (gn := g.Gone) b2 (by omega) (i := x) (k := y) (by omega) q3
        rw [b2.lab _ _ _ (by omega) q3 hT] at b3
        have b4 := NetOut_eq (a := g.Ins) (b := g.Mids) (c := g.Outs) (es := g.Edges) (gn := g.Gone) b2 (by omega) q3
        obtain ⟨p1, p2, b5, b6⟩ := goLF h hg hs hK hT o o' b2
        have b7 := Drop_eq (a := g.Ins) (b := g.Mids) (c := g.Outs) (es := g.Edges) (gn := g.Gone) b6 (by omega) (i := x) (k := y) (by omega) q3
        have b8 := b6.drop (i := x) (k := y) (by omega) q3
        have b9 := NetGraph_eq (a := g.Ins) (b := g.Mids) (c := g.Outs) (es := g.Edges) (gn := g.Gone) b8 (by omega)
        rw [edgesOf_congr (t' := goT (I + M + O) g.T x y false) (fun i k _ _ => by
          show delT (accT g.T (adF (I + M + O) g.T x y)) x y i k = _
          rw [← accT_del _ _ (adF_not h)]; rfl)] at b9
        simp only [ref19_Go, hr, hh, mb, b1, b3, b4, b5, b7, b9, Option.bind_some, Bool.not_true, cond_false, List.length_map, Int.toNat_natCast, Graph.go]
  | true =>
    simp only [if_true]
    cases hE : hasE g.Edges a b with
    | false =>
      rw [hE] at hh
      rw [if_neg (fun c => by cases c.1)]
      simp only [ref19_Go, hr, hh, ma, Option.bind_some, Bool.not_true, cond_false, Bool.not_false, cond_true]
    | true =>
      rw [hE] at hh
      cases hmid : g.shape.isMid a with
      | false =>
        rw [hmid] at ma
        rw [if_neg (fun c => by cases c.2)]
        simp only [ref19_Go, hr, hh, ma, Option.bind_some, Bool.not_true, cond_false, Bool.not_false, cond_true]
      | true =>
        rw [hmid] at ma
        rw [if_pos ⟨rfl, rfl⟩]
        obtain ⟨x, y, q, rfl, rfl, hT, q1, q2, q3, q4⟩ := has_T h hg hE
        obtain ⟨o, o', b1, b2⟩ := ref18_Of_eq h hg
        have b3 := Label_eq (a := g.Ins) (b := g.Mids) (c := g.Outs) (es := g.Edges) (gn := g.Gone) b2 (by omega) (i := x) (k := y) (by omega) q3
        rw [b2.lab _ _ _ (by omega) q3 hT] at b3
        have b4 := NetIn_eq (a := g.Ins) (b := g.Mids) (c := g.Outs) (es := g.Edges) (gn := g.Gone) b2 (by omega) (v := x) (by omega)
        obtain ⟨p1, p2, b5, b6⟩ := goLB h hg hs hK hT o o' b2
        have b7 := Drop_eq (a := g.Ins) (b := g.Mids) (c := g.Outs) (es := g.Edges) (gn := g.Gone) b6 (by omega) (i := x) (k := y) (by omega) q3
        have b8 := b6.drop (i := x) (k := y) (by omega) q3
        have b9 := NetGraph_eq (a := g.Ins) (b := g.Mids) (c := g.Outs) (es := g.Edges) (gn := g.Gone) b8 (by omega)
        rw [edgesOf_congr (t' := goT (I + M + O) g.T x y true) (fun i k _ _ => by
          show delT (accT g.T (adB (I + M + O) g.T x y)) x y i k = _
          rw [← accT_del _ _ (adB_not h)]; rfl)] at b9
        simp only [ref19_Go, hr, hh, ma, b1, b3, b4, b5, b7, b9, Option.bind_some, Bool.not_true, cond_false, cond_true, List.length_map, Int.toNat_natCast, Graph.go]
end Go.Ab.M
end

section
/-
  PLAIN LAW: WHEN AN EDGE HAS GONE, THE GRAPH IS RIGHT, AND ITS SUMS OVER WAYS ARE WHAT THEY WERE.
-/
namespace Go.Ab.M
open Go.Proofs Go.Ab
set_option linter.unusedVariables false
set_option linter.unusedSimpArgs false

section
variable {g : Graph} {I M O s : Nat} (h : RGr g I M O) {a b : Nat} {c0 : _root_.Rat} (hab : g.T a b = some c0) {back : Bool}
include h hab
end
end Go.Ab.M
end

section
/-
  PLAIN LAW: AN EDGE THAT GOES BY A STEP; counting.
-/
namespace Go.Ab.M
open Go.Proofs Go.Ab
set_option linter.unusedVariables false
set_option linter.unusedSimpArgs false

theorem awake19 : law19_awake = some true := by kernel_rfl
end Go.Ab.M
end

section
/-
  PLAIN LAW: STEPS OF A VERTEX, BY THE PROGRAM.
-/
namespace Go.Ab.M
open Go.Proofs Go.Ab
set_option linter.unusedVariables false
set_option linter.unusedSimpArgs false

def stF (e : Edge) : Step := Step.mk 1 e.From e.To
def stB (e : Edge) : Step := Step.mk 2 e.From e.To
def Graph.steps (g : Graph) (v : Int) (back : Bool) : List Step := if g.can v = true then (if back = true then (g.outs v).map stB else (g.ins v).map stF) else []
theorem map_step {α β : Type} [Inhabited α] (f : α → β) {l : List α} {i : Nat} (hi : i < l.length) : (l.take (i + 1)).map f = (l.take i).map f ++ [f (nth l i)] := by
  rw [take_nth hi, List.map_append]; rfl
theorem stepsL1 {l : List Edge} (hl : l.length ≤ 100000) : edge_Steps_l l [] 0 = some (l.map stB) := by
  unfold edge_Steps_l
  have := loop_run (round := fun σ : List Step × Nat => edge_Steps_l_rd l σ.1 σ.2) (fun i => ((l.take i).map stB, i)) l.length (r := (l.take l.length).map stB) (fun i hi => ?_) ?_ (by simp only [FU]; omega)
  · rw [List.take_length] at this; exact this
  · have g1 : ((i : Nat) : Int) < (l.length : Int) := by omega
    have g2 : ((l.take i).map stB).length + 1 ≤ 2147483648 := by rw [List.length_map, List.length_take]; omega
    have ii : inK .i64 (((i : Nat) : Int) + 1) = true := inK_i64 (by omega) (by omega)
    show edge_Steps_l_rd l ((l.take i).map stB) i = some (.inl ((l.take (i + 1)).map stB, i + 1))
    rw [map_step stB hi]
    simp only [edge_Steps_l_rd, decide_eq_true g1, decide_eq_true hi, decide_eq_true g2, ii, cond_true, stB]
  · simp only [edge_Steps_l_rd, Int.lt_irrefl, decide_false, cond_false]
theorem stepsL2 {l : List Edge} (hl : l.length ≤ 100000) : edge_Steps_l_2 l [] 0 = some (l.map stF) := by
  unfold edge_Steps_l_2
  have := loop_run (round := fun σ : List Step × Nat => edge_Steps_l_2_rd l σ.1 σ.2) (fun i => ((l.take i).map stF, i)) l.length (r := (l.take l.length).map stF) (fun i hi => ?_) ?_ (by simp only [FU]; omega)
  · rw [List.take_length] at this; exact this
  · have g1 : ((i : Nat) : Int) < (l.length : Int) := by omega
    have g2 : ((l.take i).map stF).length + 1 ≤ 2147483648 := by rw [List.length_map, List.length_take]; omega
    have ii : inK .i64 (((i : Nat) : Int) + 1) = true := inK_i64 (by omega) (by omega)
    show edge_Steps_l_2_rd l ((l.take i).map stF) i = some (.inl ((l.take (i + 1)).map stF, i + 1))
    rw [map_step stF hi]
    simp only [edge_Steps_l_2_rd, decide_eq_true g1, decide_eq_true hi, decide_eq_true g2, ii, cond_true, stF]
  · simp only [edge_Steps_l_2_rd, Int.lt_irrefl, decide_false, cond_false]
theorem Steps_eq {g : Graph} {s : Nat} (hg : g.Ok s) (hs : s ≤ 10000000) (v : Int) (back : Bool) : edge_Steps g v back = some (g.steps v back) := by
  have a := vertex_Can_eq (n := s) hs hg v
  unfold Graph.steps
  cases c : g.can v with
  | false =>
    rw [c] at a
    rw [if_neg (by simp)]
    simp only [edge_Steps, a, Option.bind_some, Bool.not_false, cond_true]
  | true =>
    rw [c] at a
    rw [if_pos rfl]
    have r := (can_iff.1 c).1
    have i1 := graph_In_eq (n := s) hs hg v
    have o1 := graph_Out_eq (n := s) hs hg v
    rw [if_pos r] at i1 o1
    have il := ins_len g v
    have ol := outs_len g v
    have el := hg.e
    cases back with
    | true => simp only [edge_Steps, a, i1, o1, Option.bind_some, Bool.not_true, cond_false, cond_true, stepsL1 (l := g.outs v) (by omega), if_true]
    | false => simp only [edge_Steps, a, i1, Option.bind_some, Bool.not_true, cond_false, stepsL2 (l := g.ins v) (by omega), Bool.false_eq_true, if_false]
theorem steps_len (g : Graph) (v : Int) (back : Bool) : (g.steps v back).length ≤ g.Edges.length := by
  unfold Graph.steps
  split
  · split
    · rw [List.length_map]; exact outs_len g v
    · rw [List.length_map]; exact ins_len g v
  · exact Nat.zero_le _
end Go.Ab.M
end

section
/-
  PLAIN LAW: STEPS OF A VERTEX; what an edge's going tells of any graph.
-/
namespace Go.Ab.M
open Go.Proofs Go.Ab
set_option linter.unusedVariables false
set_option linter.unusedSimpArgs false

theorem rStepsB {g : Graph} (hl : g.Edges.length ≤ 100000) (v : Int) : ref19_Steps_l g v true [] 0 = some ((g.outs v).map stB) := by
  unfold ref19_Steps_l
  have := loop_run (round := fun σ : List Step × Nat => ref19_Steps_l_rd g v true σ.1 σ.2) (fun i => (((g.Edges.take i).filter fun w => w.From == v).map stB, i)) g.Edges.length (r := ((g.Edges.take g.Edges.length).filter fun w => w.From == v).map stB) (fun i hi => ?_) ?_ (by simp only [FU]; omega)
  · rw [List.take_length] at this; exact this
  · have hq := filt_len (l := g.Edges) (fun w : Edge => w.From == v) i
    have hq2 : (((g.Edges.take i).filter fun w => w.From == v).map stB).length ≤ 100000 := by rw [List.length_map]; omega
    have g1 : ((i : Nat) : Int) < (g.Edges.length : Int) := by omega
    have ii : inK .i64 (((i : Nat) : Int) + 1) = true := inK_i64 (by omega) (by omega)
    show ref19_Steps_l_rd g v true (((g.Edges.take i).filter fun w => w.From == v).map stB) i = some (.inl (((g.Edges.take (i + 1)).filter fun w => w.From == v).map stB, i + 1))
    have e : ((g.Edges.take (i + 1)).filter fun w => w.From == v).map stB = ((g.Edges.take i).filter fun w => w.From == v).map stB ++ (if ((nth g.Edges i).From == v) = true then [stB (nth g.Edges i)] else []) := by
      rw [filter_step hi]
      split
      · rw [List.map_append]; rfl
      · rw [List.append_nil]
    rw [e]
    clear e
    generalize ((g.Edges.take i).filter fun w => w.From == v).map stB = L at *
    have g2 : L.length + 1 ≤ 2147483648 := by omega
    rcases Bool.eq_false_or_eq_true ((nth g.Edges i).From == v) with q | q
    · rw [if_pos q]
      simp only [ref19_Steps_l_rd, Bool.cond_decide, if_pos g1, if_pos hi, if_pos g2, q, ii, cond_true, cond_false, Bool.not_true, stB]
    · rw [if_neg (by rw [q]; decide), List.append_nil]
      simp only [ref19_Steps_l_rd, Bool.cond_decide, if_pos g1, if_pos hi, q, ii, cond_true, cond_false, Bool.not_true]
  · simp only [ref19_Steps_l_rd, Int.lt_irrefl, decide_false, cond_false]
theorem rdF (g : Graph) (v : Int) (L : List Step) (i : Nat) : ref19_Steps_l_rd g v false L i =
    bif decide (((i : Nat) : Int) < ((g.Edges.length : Nat) : Int)) then
      bif decide (i < g.Edges.length) then
        bif ((nth g.Edges i).To) == v then
          bif decide (L.length + 1 ≤ 2147483648) then
            bif inK .i64 (((i : Nat) : Int) + 1) then some (.inl (L ++ [Step.mk 1 ((nth g.Edges i).From) ((nth g.Edges i).To)], i + 1)) else none
          else none
        else bif inK .i64 (((i : Nat) : Int) + 1) then some (.inl (L, i + 1)) else none
      else none
    else some (.inr L) := by
  unfold ref19_Steps_l_rd
  rw [cond_false, Bool.not_false, cond_true]
theorem roundF (g : Graph) (v : Int) (L : List Step) (i : Nat) (g1 : ((i : Nat) : Int) < ((g.Edges.length : Nat) : Int)) (hi : i < g.Edges.length) (ii : inK .i64 (((i : Nat) : Int) + 1) = true) (g2 : L.length + 1 ≤ 2147483648) :
    ref19_Steps_l_rd g v false L i = some (.inl (L ++ (if ((nth g.Edges i).To == v) = true then [stF (nth g.Edges i)] else []), i + 1)) := by
  rw [rdF g v L i, decide_eq_true g1, decide_eq_true hi, ii, cond_true, cond_true]
  rcases Bool.eq_false_or_eq_true ((nth g.Edges i).To == v) with q | q
  · rw [q, if_pos rfl, cond_true, bif_t g2, cond_true]; rfl
  · rw [q, if_neg (by decide), cond_false, cond_true, List.append_nil]
theorem endF (g : Graph) (v : Int) (L : List Step) : ref19_Steps_l_rd g v false L g.Edges.length = some (.inr L) := by
  rw [rdF g v L _, decide_eq_false (Int.lt_irrefl _), cond_false]
theorem filt_map_step (g : Graph) (v : Int) {i : Nat} (hi : i < g.Edges.length) : ((g.Edges.take (i + 1)).filter fun w => w.To == v).map stF = ((g.Edges.take i).filter fun w => w.To == v).map stF ++ (if ((nth g.Edges i).To == v) = true then [stF (nth g.Edges i)] else []) := by
  rw [filter_step hi]
  split
  · rw [List.map_append]; rfl
  · rw [List.append_nil]
theorem rStepsF {g : Graph} (hl : g.Edges.length ≤ 100000) (v : Int) : ref19_Steps_l g v false [] 0 = some ((g.ins v).map stF) := by
  unfold ref19_Steps_l
  have := loop_run (round := fun σ : List Step × Nat => ref19_Steps_l_rd g v false σ.1 σ.2) (fun i => (((g.Edges.take i).filter fun w => w.To == v).map stF, i)) g.Edges.length (r := ((g.Edges.take g.Edges.length).filter fun w => w.To == v).map stF) (fun i hi => ?_) (endF g v _) (by simp only [FU]; omega)
  · rw [List.take_length] at this; exact this
  · have hq := filt_len (l := g.Edges) (fun w : Edge => w.To == v) i
    have hq2 : (((g.Edges.take i).filter fun w => w.To == v).map stF).length ≤ 100000 := by rw [List.length_map]; omega
    show ref19_Steps_l_rd g v false (((g.Edges.take i).filter fun w => w.To == v).map stF) i = some (.inl (((g.Edges.take (i + 1)).filter fun w => w.To == v).map stF, i + 1))
    rw [filt_map_step g v hi]
    exact roundF g v _ i (by omega) hi (inK_i64 (by omega) (by omega)) (Nat.le_trans (Nat.succ_le_succ hq2) (by decide))
theorem rStepsL {g : Graph} (hl : g.Edges.length ≤ 100000) (v : Int) (back : Bool) : ref19_Steps_l g v back [] 0 = some (if back = true then (g.outs v).map stB else (g.ins v).map stF) := by
  cases back with
  | true => exact rStepsB hl v
  | false => exact rStepsF hl v
theorem rSteps_eq {g : Graph} {s : Nat} (hg : g.Ok s) (hs0 : 0 < s) (hs : s ≤ 3000) (v : Int) (back : Bool) : ref19_Steps g v back = some (g.steps v back) := by
  have a := ref18_Can_eq hg hs0 hs v
  have el := hg.e
  unfold Graph.steps
  cases c : g.can v with
  | false =>
    rw [c] at a
    rw [if_neg (by simp)]
    simp only [ref19_Steps, a, Option.bind_some, Bool.not_false, cond_true]
  | true =>
    rw [c] at a
    rw [if_pos rfl]
    simp only [ref19_Steps, a, Option.bind_some, Bool.not_true, cond_false, rStepsL el v back]
theorem stepsSame {l : List Step} (hl : l.length ≤ 1000000) : ref19_Same l l = some true := by
  have e : ref19_Same_l l l 0 = some (.inr ()) := by
    unfold ref19_Same_l
    refine loop_run (round := fun σ => ref19_Same_l_rd l l σ) (fun i => i) l.length (fun i hi => ?_) ?_ (by simp only [FU]; omega)
    · have g1 : ((i : Nat) : Int) < (l.length : Int) := by omega
      have ii : inK .i64 (((i : Nat) : Int) + 1) = true := inK_i64 (by omega) (by omega)
      simp only [ref19_Same_l_rd, decide_eq_true g1, decide_eq_true hi, BEq.rfl, Bool.and_true, Bool.not_true, cond_false, cond_true, ii]
    · simp only [ref19_Same_l_rd, Int.lt_irrefl, decide_false, cond_false]
  simp only [ref19_Same, bne_self_eq_false, cond_false, e, Option.bind_some, caseS_inr]
/-- what is told of any graph -/
def Graph.goX (g : Graph) (a b : Int) (back : Bool) : Graph × Int × Int := if g.right = true then g.goR (g.Ins.toNat + g.Mids.toNat + g.Outs.toNat) a b back else (⟨0, 0, 0, [], []⟩, 0, 1)
theorem Front_X {g : Graph} {s : Nat} (hg : g.Ok s) (hs : 0 < s) (hK : 3 * s + 1 ≤ 1000000) (a b : Int) : edge_Front g a b = some (g.goX a b false) := by
  unfold Graph.goX
  by_cases r : g.right = true
  · rw [if_pos r]; exact Front_eq (right_gr r) hg hs hK a b
  · rw [if_neg r]
    have a1 := graph_Right_eq (n := s) (by omega) hg
    rw [Bool.eq_false_iff.2 r] at a1
    simp only [edge_Front, a1, Option.bind_some, Bool.not_false, cond_true]
theorem Back_X {g : Graph} {s : Nat} (hg : g.Ok s) (hs : 0 < s) (hK : 3 * s + 1 ≤ 1000000) (a b : Int) : edge_Back g a b = some (g.goX a b true) := by
  unfold Graph.goX
  by_cases r : g.right = true
  · rw [if_pos r]; exact Back_eq (right_gr r) hg hs hK a b
  · rw [if_neg r]
    have a1 := graph_Right_eq (n := s) (by omega) hg
    rw [Bool.eq_false_iff.2 r] at a1
    simp only [edge_Back, a1, Option.bind_some, Bool.not_false, cond_true]
theorem Go_X {g : Graph} {s : Nat} (hg : g.Ok s) (hs : 0 < s) (hK : 3 * s + 1 ≤ 1400) (a b : Int) (back : Bool) : ref19_Go g a b back = some (g.goX a b back) := by
  unfold Graph.goX
  by_cases r : g.right = true
  · rw [if_pos r]; exact Go_eq (right_gr r) hg hs hK a b back
  · rw [if_neg r]
    have a1 := ref17_Right_eq hg hs (by omega)
    rw [Bool.eq_false_iff.2 r] at a1
    simp only [ref19_Go, a1, Option.bind_some, Bool.not_false, cond_true]
theorem goX_same {g : Graph} {s : Nat} (hg : g.Ok s) (hs : 0 < s) (hK : 3 * s + 1 ≤ 900000000) (a b : Int) (back : Bool) : ref17_Same (g.goX a b back).1 (g.goX a b back).1 = some true := by
  have z : ref17_Same (Graph.mk 0 0 0 [] []) (Graph.mk 0 0 0 [] []) = some true := graph_same (g := Graph.mk 0 0 0 [] []) (by decide) (by decide) (fun w hw => by cases hw)
  unfold Graph.goX
  by_cases r : g.right = true
  · rw [if_pos r]
    have h := right_gr r
    have i2 := h.i2; have m2 := h.m2; have o2 := h.o2
    unfold Graph.goR
    by_cases c : hasE g.Edges a b = true ∧ g.shape.isMid (if back = true then a else b) = true
    · rw [if_pos c]
      refine graph_same ?_ ?_ fun w hw => ?_
      · exact Nat.le_trans (edgesOf_le (by omega) _) (by decide)
      · have := hg.g
        show g.Gone.length ≤ _
        omega
      · have := edgesOf_sz (goT_sz (T_sz h hg hs) hs a.toNat b.toNat back) w hw
        exact ⟨Nat.le_trans this.2.2.1 hK, Nat.le_trans this.2.2.2 hK⟩
    · rw [if_neg c]; exact z
  · rw [if_neg r]; exact z
end Go.Ab.M
end

section
/-
  PLAIN LAW: WHAT COMES OF ANY EDGE OF ANY GRAPH, IN FRONT AND BACK, IS AS THE DOCUMENT SAYS; so are the steps of any vertex.
-/
namespace Go.Ab.M
open Go.Proofs Go.Ab
set_option linter.unusedVariables false
set_option linter.unusedSimpArgs false

def RatIn (x : Rat) : Prop := True ∧ (x.Num.length ≤ maxLen ∧ ∀ z, z ∈ x.Num → inRange .u32 z) ∧ (x.Den.length ≤ maxLen ∧ ∀ z, z ∈ x.Den → inRange .u32 z)
theorem RatIn.ok {x : Rat} {n : Nat} (h : RatIn x) (k : x.Num.length ≤ n ∧ x.Den.length ≤ n) : okL n x :=
  ⟨fun z hz => ⟨(h.2.1.2 z hz).1, Int.lt_of_le_of_lt (h.2.1.2 z hz).2 (by decide)⟩, fun z hz => ⟨(h.2.2.2 z hz).1, Int.lt_of_le_of_lt (h.2.2.2 z hz).2 (by decide)⟩, k.1, k.2⟩
def GraphIn (g : Graph) : Prop := inRange .i64 g.Ins ∧ inRange .i64 g.Mids ∧ inRange .i64 g.Outs ∧ (g.Edges.length ≤ maxLen ∧ ∀ z, z ∈ g.Edges → inRange .i64 z.From ∧ inRange .i64 z.To ∧ RatIn z.W) ∧ (g.Gone.length ≤ maxLen ∧ ∀ z, z ∈ g.Gone → inRange .i64 z)
theorem GraphIn.ok {g : Graph} (h : GraphIn g) (hf : fewG g) : g.Ok 2 := by
  obtain ⟨f1, f2, f3, f4, f5, f6⟩ := hf
  exact ⟨fun i hi => (h.2.2.2.1.2 _ (nth_mem hi)).2.2.ok (f6 _ (nth_mem hi)), by omega, by omega⟩
theorem EdgeTells_true (g : Graph) (a b : Int) {T T' : Prop} (hg : GraphIn g) (ha : T) (hb : T') : law19_EdgeTells g a b = some true := by
  by_cases hf : fewG g
  · have ok := hg.ok hf
    have few := (ref17_Few_eq g).1 hf
    have a1 := Front_X ok (by decide) (by decide) a b
    have a2 := Go_X ok (by decide) (by decide) a b false
    have a3 := Back_X ok (by decide) (by decide) a b
    have a4 := Go_X ok (by decide) (by decide) a b true
    have a5 := goX_same ok (by decide) (by decide) a b false
    have a6 := goX_same ok (by decide) (by decide) a b true
    have a7 := Steps_eq ok (by decide) a false
    have a8 := rSteps_eq ok (by decide) (by decide) a false
    have a9 := Steps_eq ok (by decide) b true
    have a10 := rSteps_eq ok (by decide) (by decide) b true
    have el := ok.e
    have b1 := stepsSame (l := g.steps a false) (by have := steps_len g a false; omega)
    have b2 := stepsSame (l := g.steps b true) (by have := steps_len g b true; omega)
    simp only [law19_EdgeTells, awake19, few, a1, a2, a3, a4, a5, a6, a7, a8, a9, a10, b1, b2, Option.bind_some, Bool.not_true, cond_false, cond_true, BEq.rfl]
  · have few := (ref17_Few_eq g).2 hf
    simp only [law19_EdgeTells, awake19, few, Option.bind_some, Bool.not_false, cond_true]
end Go.Ab.M
end

section
/-
  ARGUMENTS AS TYPED DATA (printed by jot.py).
-/
namespace Go.Ab.M
open Go.Proofs Go.Proofs.YthikenallhbkpaaGreat
set_option linter.unusedVariables false
def tyRat : Ty Tryz.prog 41 := Ty.as (Ty.struct Tryz.underlying41 (Flds.cons (Ty.bool Tryz.underlying4) rfl 1 (by kernel_rfl) (Flds.cons (Ty.slice Tryz.underlying39 (Ty.int .u32 Tryz.underlying145) (by decide +kernel) (fun _ => show 1 = _ by kernel_rfl)) rfl 1 (by kernel_rfl) (Flds.last (Ty.slice Tryz.underlying39 (Ty.int .u32 Tryz.underlying145) (by decide +kernel) (fun _ => show 1 = _ by kernel_rfl)) rfl (by kernel_rfl)))))
  (fun y => Rat.mk y.1 y.2.1 y.2.2) Rat.D (fun y => True ∧ (y.Num.length ≤ maxLen ∧ ∀ z, z ∈ y.Num → inRange .u32 z) ∧ (y.Den.length ≤ maxLen ∧ ∀ z, z ∈ y.Den → inRange .u32 z)) (fun _ => 0) (fun _ => rfl) (fun _ h => h) (fun _ => Nat.zero_le _)
def tyEdge : Ty Tryz.prog 43 := Ty.as (Ty.struct Tryz.underlying43 (Flds.cons (Ty.int .i64 Tryz.underlying3) rfl 1 (by kernel_rfl) (Flds.cons (Ty.int .i64 Tryz.underlying3) rfl 1 (by kernel_rfl) (Flds.last tyRat rfl (by kernel_rfl)))))
  (fun y => Edge.mk y.1 y.2.1 y.2.2) Edge.D (fun y => inRange .i64 y.From ∧ inRange .i64 y.To ∧ tyRat.ok y.W) (fun _ => 0) (fun _ => rfl) (fun _ h => h) (fun _ => Nat.zero_le _)
def tyGraph : Ty Tryz.prog 25 := Ty.as (Ty.struct Tryz.underlying25 (Flds.cons (Ty.int .i64 Tryz.underlying3) rfl 1 (by kernel_rfl) (Flds.cons (Ty.int .i64 Tryz.underlying3) rfl 1 (by kernel_rfl) (Flds.cons (Ty.int .i64 Tryz.underlying3) rfl 1 (by kernel_rfl) (Flds.cons (Ty.slice Tryz.underlying22 tyEdge (by decide +kernel) (fun _ => show 5 = _ by kernel_rfl)) rfl 1 (by kernel_rfl) (Flds.last (Ty.slice Tryz.underlying23 (Ty.int .i64 Tryz.underlying3) (by decide +kernel) (fun _ => show 1 = _ by kernel_rfl)) rfl (by kernel_rfl)))))))
  (fun y => Graph.mk y.1 y.2.1 y.2.2.1 y.2.2.2.1 y.2.2.2.2) Graph.D (fun y => inRange .i64 y.Ins ∧ inRange .i64 y.Mids ∧ inRange .i64 y.Outs ∧ (y.Edges.length ≤ maxLen ∧ ∀ z, z ∈ y.Edges → tyEdge.ok z) ∧ (y.Gone.length ≤ maxLen ∧ ∀ z, z ∈ y.Gone → inRange .i64 z)) (fun _ => 0) (fun _ => rfl) (fun _ h => h) (fun _ => Nat.zero_le _)
end Go.Ab.M
end

section
namespace Go.Proofs.YthikenallhbkpaaGreat.edgeTells
open Go.ChangeShapes Go.WideShapes Go.ChangeAt Go.RowKit Go.Ab Go.Ab.M
set_option linter.unusedVariables false

theorem own : ownKnob Tryz.prog.godebug = none := by kernel_rfl

theorem core (a : Graph) (b : Int) (c : Int) (ha : tyGraph.ok a) (hb : inRange .i64 b) (hc : inRange .i64 c) : ACallsD Tryz.prog 3 0 [AG Graph.D a, I b, I c] [] yes [] := law19_EdgeTells_ok a b c true (EdgeTells_true a b c ha hb hc)

set_option maxRecDepth 100000 in
theorem contract (H : Type) (enc : TypeId × Value → H) (W : World) (base : Nat) (args : Array Value) (ds gs : List (DataW H)) (before : List MemPlace)
    (hval : ∀ (j : Nat) t v, Tryz.f3.params[j]? = some t → args[j]? = some v → Value.okWide Tryz.prog W .any base t v)
    (hW : DataW.Whole enc Tryz.prog Tryz.f3.params.toList Rows.edgeTellsSpec.vars false W args.toList ds gs before) :
    Calls Tryz.prog 3 args W fun e W' => ∃ v, e = .returned v ∧ Rows.edgeTellsSpec.post enc Tryz.prog Tryz.f3 false true false false W args v W' :=
  law_contract (tb := 4) (ts := [25, 3, 3]) (Tup.agg tyGraph (by kernel_rfl) (Tup.one (Ty.int .i64 Tryz.underlying3) (fun n => .v (.int .i64 n)) (fun _ => rfl) (one_int Tryz.underlying3) (Tup.one (Ty.int .i64 Tryz.underlying3) (fun n => .v (.int .i64 n)) (fun _ => rfl) (one_int Tryz.underlying3) Tup.nil))) (by kernel_rfl) (by kernel_rfl) (by kernel_rfl) (by kernel_rfl) Tryz.underlying4 rfl (fun ds h => by
      match ds, h with
      | [d0, d1, d2], _ => rfl) hval hW
    fun y hy _ => core y.1 y.2.1 y.2.2.1 hy.1 hy.2.1 hy.2.2.1

set_option maxRecDepth 100000 in
theorem lifted (os : Os) (started : os.Started) (H : Type) (enc : TypeId × Value → H) :
    ReturnsInHanded {} Tryz.checked os 3 .any (Rows.edgeTellsSpec.pre6 enc Tryz.prog Tryz.f3 Rows.edgeTellsRow.domain false) (Rows.edgeTellsSpec.post enc Tryz.prog Tryz.f3 false true false false) := by
  refine returnsInHanded_of_change (C := Tryz.checked) own started (by kernel_rfl) Tryz.func3
    (ChangeSpec.witness6 (enc := enc) (C := Tryz.checked) false ⟨#[], #[.agg #[.int .i64 0, .int .i64 0, .int .i64 0, .slice none 0 0, .slice none 0 0], .int .i64 0, .int .i64 0], []⟩ 8 (by kernel_rfl) (by kernel_rfl) (by kernel_rfl) (by kernel_rfl)) ?_
  intro W base args ds gs before hval hW _ _
  exact contract H enc W base args ds gs before hval hW

theorem fact0 : (Rows.edgeTellsRow.wf (OpenSpec.ofChange Rows.edgeTellsSpec)) = true := by kernel_rfl
theorem fact1 : (laidOutB Tryz.prog) = true := by kernel_rfl
theorem fact2 : (mapsRowed Tryz.prog) = true := by kernel_rfl
theorem fact3 : (Tryz.f3.params.all (Tryz.prog.readableRec ·)) = true := by kernel_rfl
theorem fact4 : (namedTie Tryz.prog Rows.edgeTellsRow.named Rows.edgeTellsSpec.vars) = true := by kernel_rfl
theorem fact5 : ((Rows.edgeTellsRow.stops == [])) = true := by kernel_rfl
theorem fact6 : ((Tryz.prog.stops == [])) = true := by kernel_rfl
theorem fact7 : ((Rows.edgeTellsRow.knobs == [])) = true := by kernel_rfl
theorem fact8 : ((Tryz.prog.stopKnobs == [])) = true := by kernel_rfl
theorem fact9 : ((Rows.edgeTellsRow.inPlace == Tryz.prog.inPlace 3)) = true := by kernel_rfl
theorem fact10 : ((Rows.edgeTellsRow.unfollowed == Tryz.prog.unfollowed 3)) = true := by kernel_rfl
theorem fact11 : ((Rows.edgeTellsRow.recurses == Tryz.prog.recurses 3)) = true := by kernel_rfl
theorem fact12 : ((Rows.edgeTellsRow.named == Tryz.prog.varsNamed 3)) = true := by kernel_rfl
theorem fact13 : ((Rows.edgeTellsRow.maps == (Tryz.f3.params.toList ++ Rows.edgeTellsSpec.plain.varTypes Tryz.prog).any (Tryz.prog.mapsRec ·))) = true := by kernel_rfl
theorem fact14 : ((Rows.edgeTellsRow.ifaces == (Tryz.f3.params.toList ++ Rows.edgeTellsSpec.plain.varTypes Tryz.prog).any (Tryz.prog.ifacesRec ·))) = true := by kernel_rfl
theorem fact15 : ((Rows.edgeTellsRow.mapsOut == Tryz.prog.mapsAmong Tryz.f3.resultTypes.toList)) = true := by kernel_rfl
theorem fact16 : ((Rows.edgeTellsRow.loops == (Tryz.f3.params.toList ++ Rows.edgeTellsSpec.plain.varTypes Tryz.prog).any (Tryz.prog.loopsFrom ·))) = true := by kernel_rfl
theorem fact17 : ((Rows.edgeTellsRow.wideKeys == (Tryz.f3.params.toList ++ Rows.edgeTellsSpec.plain.varTypes Tryz.prog ++ Tryz.f3.resultTypes.toList).any (Tryz.prog.wideKeysFrom ·))) = true := by kernel_rfl
theorem fact18 : (Rows.edgeTellsSpec.vars.all (Tryz.prog.varReadable ·)) = true := by kernel_rfl
theorem fact19 : (Tryz.f3.resultTypes.all (fun t => Tryz.prog.readableRec t && decide (t < Tryz.prog.types.size))) = true := by kernel_rfl
theorem fact20 : ((Rows.edgeTellsRow.ifacesOut == Tryz.f3.resultTypes.toList.any (Tryz.prog.ifacesRec ·))) = true := by kernel_rfl
theorem fact21 : ((Rows.edgeTellsRow.loopsOut == Tryz.f3.resultTypes.toList.any (Tryz.prog.loopsFrom ·))) = true := by kernel_rfl
theorem fact22 : ((Rows.edgeTellsRow.plainKeys == Tryz.prog.plainKeys)) = true := by kernel_rfl
theorem fact23 : (Rows.edgeTellsRow.shortTexts.isNone) = true := by kernel_rfl
theorem fact24 : (Tryz.prog.stopsHeard) = true := by kernel_rfl
theorem fact25 : (Tryz.prog.mayEnter) = true := by kernel_rfl
theorem fact26 : ((Rows.edgeTellsRow.lifted == Tryz.prog.liftsFinal)) = true := by kernel_rfl
theorem fact27 : ((Tryz.prog.make == some Rows.edgeTellsRow.make)) = true := by kernel_rfl
theorem fact28 : ((Rows.edgeTellsRow.kinds == (if Rows.edgeTellsRow.domain.isEmpty then [] else Tryz.f3.params.toList.map fun t => match Tryz.prog.underlying t with | some (.int k) => some k | _ => none))) = true := by kernel_rfl
theorem fact29 : ((Rows.edgeTellsRow.pinned == Rows.edgeTellsRow.pinnedBy)) = true := by kernel_rfl
theorem fact30 : ((Rows.edgeTellsRow.veiled == (Tryz.f3.params.toList ++ Rows.edgeTellsSpec.plain.varTypes Tryz.prog ++ Tryz.f3.resultTypes.toList).any (Tryz.prog.veiledRec ·))) = true := by kernel_rfl
theorem fact31 : (Rows.edgeTellsRow.veiledFits Tryz.prog Tryz.f3.params.toList (Tryz.f3.params.toList ++ Rows.edgeTellsSpec.plain.varTypes Tryz.prog ++ Tryz.f3.resultTypes.toList)) = true := by kernel_rfl
theorem and_t {a b : Bool} (h : a = true) (k : b = true) : (a && b) = true := by rw [h, k]; rfl
set_option maxRecDepth 100000 in
theorem closed : joinedFacts Tryz.prog 3 Tryz.f3 Rows.edgeTellsSpec Rows.edgeTellsRow = true := by
  unfold joinedFacts
  exact and_t (and_t (and_t (and_t (and_t (and_t (and_t (and_t (and_t (and_t (and_t (and_t (and_t (and_t (and_t (and_t (and_t (and_t (and_t (and_t (and_t (and_t (and_t (and_t (and_t (and_t (and_t (and_t (and_t (and_t (and_t (fact0) fact1) fact2) fact3) fact4) fact5) fact6) fact7) fact8) fact9) fact10) fact11) fact12) fact13) fact14) fact15) fact16) fact17) fact18) fact19) fact20) fact21) fact22) fact23) fact24) fact25) fact26) fact27) fact28) fact29) fact30) fact31

theorem over : Rows.edgeTellsRow.holds Tryz.pinned (OpenSpec.ofChange Rows.edgeTellsSpec) :=
  OpenClaim.holds_of_wide 3 Tryz.f3 rfl rfl rfl rfl rfl rfl rfl ⟨rfl, rfl, rfl, rfl, rfl⟩ rfl rfl rfl rfl rfl (by kernel_rfl) Tryz.func3 closed
    (of_decide_eq_true (by kernel_rfl)) (by unfold Func.isWrapper; first | (rw [if_pos (by decide +kernel)]; kernel_rfl) | (rw [if_neg (by decide +kernel)]; exact ⟨rfl, rfl⟩))
    (fun os started H enc _ => lifted os started H enc)

theorem proved : Rows.EdgeTellsSaid :=
  over
end Go.Proofs.YthikenallhbkpaaGreat.edgeTells
end
