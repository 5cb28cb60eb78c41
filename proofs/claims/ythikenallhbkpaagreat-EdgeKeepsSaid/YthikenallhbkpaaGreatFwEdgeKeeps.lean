/-
  THE LAW 'EdgeKeeps' HOLDS AT EVERY INPUT.
  Conditions: none.
-/
import Derived.Test.YthikenallhbkpaaGreatLwEdgeKeeps
import Derived.Test.YthikenallhbkpaaGreatTN
import Derived.Test.YthikenallhbkpaaGreatPR
import Derived.Test.YthikenallhbkpaaGreatPS
section
/-
  PLAIN LAW: SEARCHING IN SORTED EDGES; EDGES PUT IN AND TAKEN OUT.
-/
namespace Go.Ab.M
open Go.Proofs Go.Ab
set_option linter.unusedVariables false
set_option linter.unusedSimpArgs false

theorem edge_find_1_eq (x y : Edge) : edge_find_1 x y = some (cmpG x y) := by
  unfold edge_find_1
  simp only [compareG, Option.bind_some, or2G]
  congr 1
  unfold cmpG
  repeat' split
  all_goals omega
def befE (e : Edge) (a b : Int) : Prop := e.From < a ∨ (e.From = a ∧ e.To < b)
instance (e : Edge) (a b : Int) : Decidable (befE e a b) := by unfold befE; infer_instance
theorem cmpG_lt {x y : Edge} : cmpG x y < 0 ↔ befE x y.From y.To := by
  unfold cmpG befE
  repeat' split
  all_goals (constructor <;> intro h <;> omega)
theorem cmpG_eq {x y : Edge} : cmpG x y = 0 ↔ x.From = y.From ∧ x.To = y.To := by
  unfold cmpG
  repeat' split
  all_goals (constructor <;> intro h <;> omega)
theorem mid_eq {i j : Nat} (h : i + j ≤ 4000000000) : IntKind.wrap .i64 (shrI .u64 (IntKind.wrap .u64 ((i : Int) + (j : Int))) 1) = (((i + j) / 2 : Nat) : Int) := by
  have e : (i : Int) + (j : Int) = ((i + j : Nat) : Int) := (Int.natCast_add ..).symm
  rw [e, wrap_u64 (isW_nat (by omega))]
  have e1 : shrI .u64 ((i + j : Nat) : Int) 1 = ((i + j : Nat) : Int).fdiv (2 ^ 1) := rfl
  rw [e1, Int.fdiv_eq_ediv_of_nonneg _ (by decide)]
  have e2 : ((i + j : Nat) : Int) / 2 ^ 1 = (((i + j) / 2 : Nat) : Int) := by omega
  rw [e2, IntKind.wrap_i64]
  omega
theorem bs_loop {l : List Edge} {a b : Int} {w : Rat} (hl : l.length ≤ 1000000) {k : Nat} (hk : k ≤ l.length) (h1 : ∀ p, p < k → befE (nth l p) a b) (h2 : ∀ p, k ≤ p → p < l.length → ¬ befE (nth l p) a b) :
    ∀ (n i j : Nat), j - i < n → i ≤ k → k ≤ j → j ≤ l.length → loopN (fun σ : Int × Int => slices_BinarySearchFunc_api_Edge_api_Edge_api_Edge_l_rd l ⟨a, b, w⟩ σ.1 σ.2) n ((i : Int), (j : Int)) = some (k : Int)
  | 0, i, j, h, _, _, _ => by omega
  | n + 1, i, j, h, hi, hj, hjl => by
    show (slices_BinarySearchFunc_api_Edge_api_Edge_api_Edge_l_rd l ⟨a, b, w⟩ (i : Int) (j : Int)).bind _ = _
    by_cases c : i < j
    · have g1 : (i : Int) < (j : Int) := by omega
      have hm := mid_eq (i := i) (j := j) (by omega)
      have g2 : (0 : Int) ≤ (((i + j) / 2 : Nat) : Int) := by omega
      have g3 : (i + j) / 2 < l.length := by omega
      have e3 : (((i + j) / 2 : Nat) : Int).toNat = (i + j) / 2 := by omega
      have ii : inK .i64 ((i : Int) + (j : Int)) = true := inK_i64 (by omega) (by omega)
      have i2 : inK .i64 ((((i + j) / 2 : Nat) : Int) + 1) = true := inK_i64 (by omega) (by omega)
      by_cases d : befE (nth l ((i + j) / 2)) a b
      · have q : cmpG (nth l ((i + j) / 2)) ⟨a, b, w⟩ < 0 := cmpG_lt.2 d
        have hlt : (i + j) / 2 < k := by
          rcases Nat.lt_or_ge ((i + j) / 2) k with x | x
          · exact x
          · exact absurd d (h2 _ x (by omega))
        have := bs_loop (w := w) hl hk h1 h2 n ((i + j) / 2 + 1) j (by omega) (by omega) hj hjl
        have e4 : (((i + j) / 2 : Nat) : Int) + 1 = (((i + j) / 2 + 1 : Nat) : Int) := by omega
        rw [← e4] at this
        have r : slices_BinarySearchFunc_api_Edge_api_Edge_api_Edge_l_rd l ⟨a, b, w⟩ (i : Int) (j : Int) = some (.inl ((((i + j) / 2 : Nat) : Int) + 1, (j : Int))) := by
          simp only [slices_BinarySearchFunc_api_Edge_api_Edge_api_Edge_l_rd, decide_eq_true g1, cond_true, ii, hm, decide_eq_true g2, e3, decide_eq_true g3, edge_find_1_eq, Option.bind_some, decide_eq_true q, i2]
        rw [r]
        exact this
      · have q : ¬ cmpG (nth l ((i + j) / 2)) ⟨a, b, w⟩ < 0 := fun x => d (cmpG_lt.1 x)
        have hge : k ≤ (i + j) / 2 := by
          rcases Nat.lt_or_ge ((i + j) / 2) k with x | x
          · exact absurd (h1 _ x) d
          · exact x
        have := bs_loop (w := w) hl hk h1 h2 n i ((i + j) / 2) (by omega) hi hge (by omega)
        have r : slices_BinarySearchFunc_api_Edge_api_Edge_api_Edge_l_rd l ⟨a, b, w⟩ (i : Int) (j : Int) = some (.inl ((i : Int), (((i + j) / 2 : Nat) : Int))) := by
          simp only [slices_BinarySearchFunc_api_Edge_api_Edge_api_Edge_l_rd, decide_eq_true g1, cond_true, ii, hm, decide_eq_true g2, e3, decide_eq_true g3, edge_find_1_eq, Option.bind_some, decide_eq_false q, cond_false]
        rw [r]
        exact this
    · have g1 : ¬ (i : Int) < (j : Int) := by omega
      obtain rfl : i = k := by omega
      simp only [slices_BinarySearchFunc_api_Edge_api_Edge_api_Edge_l_rd, decide_eq_false g1, cond_false, Option.bind_some, caseS_inr]
/-- the place of a pair in sorted edges -/
def plE (l : List Edge) (a b : Int) : Nat := (l.filter fun e => decide (befE e a b)).length
theorem plE_le (l : List Edge) (a b : Int) : plE l a b ≤ l.length := List.length_filter_le _ _
theorem plE_is : ∀ {l : List Edge}, l.Pairwise edgeLt → ∀ (a b : Int), (∀ p, p < plE l a b → befE (nth l p) a b) ∧ ∀ p, plE l a b ≤ p → p < l.length → ¬ befE (nth l p) a b
  | [], _, a, b => ⟨fun p hp => by simp [plE] at hp, fun p _ hp => by simp at hp⟩
  | e :: l, h, a, b => by
    obtain ⟨hh, ht⟩ := List.pairwise_cons.1 h
    obtain ⟨i1, i2⟩ := plE_is ht a b
    by_cases c : befE e a b
    · have e1 : plE (e :: l) a b = plE l a b + 1 := by unfold plE; rw [List.filter_cons_of_pos (by simpa using c)]; rfl
      rw [e1]
      refine ⟨fun p hp => ?_, fun p hp hp2 => ?_⟩
      · cases p with
        | zero => exact c
        | succ p => exact i1 p (by omega)
      · cases p with
        | zero => omega
        | succ p => exact i2 p (by omega) (by simpa using hp2)
    · have e0 : ∀ x ∈ l, ¬ befE x a b := fun x hx hb => c (by have := hh x hx; unfold edgeLt at this; unfold befE at *; omega)
      have e1 : plE (e :: l) a b = 0 := by
        unfold plE
        rw [List.length_eq_zero_iff, List.filter_eq_nil_iff]
        intro x hx
        rcases List.mem_cons.1 hx with rfl | hx
        · simpa using c
        · simpa using e0 x hx
      rw [e1]
      refine ⟨fun p hp => by omega, fun p _ hp2 => ?_⟩
      cases p with
      | zero => exact c
      | succ p => exact e0 _ (nth_mem (l := l) (i := p) (by simpa using hp2))
/-- is a pair there? -/
def hasE (l : List Edge) (a b : Int) : Bool := l.any fun e => e.From == a && e.To == b
theorem hasE_iff {l : List Edge} {a b : Int} : hasE l a b = true ↔ ∃ e, e ∈ l ∧ e.From = a ∧ e.To = b := by
  unfold hasE
  rw [List.any_eq_true]
  constructor
  · rintro ⟨e, he, h⟩
    rw [Bool.and_eq_true, beq_iff_eq, beq_iff_eq] at h
    exact ⟨e, he, h⟩
  · rintro ⟨e, he, h⟩
    exact ⟨e, he, by rw [Bool.and_eq_true, beq_iff_eq, beq_iff_eq]; exact h⟩
theorem hasE_at {l : List Edge} (h : l.Pairwise edgeLt) {a b : Int} : hasE l a b = true ↔ plE l a b < l.length ∧ (nth l (plE l a b)).From = a ∧ (nth l (plE l a b)).To = b := by
  obtain ⟨i1, i2⟩ := plE_is h a b
  rw [hasE_iff]
  constructor
  · rintro ⟨e, he, rfl, rfl⟩
    obtain ⟨p, hp, rfl⟩ := mem_nth he
    have hle : plE l (nth l p).From (nth l p).To ≤ p := by
      rcases Nat.lt_or_ge p (plE l (nth l p).From (nth l p).To) with x | x
      · have := i1 p x; unfold befE at this; omega
      · exact x
    have hlt : plE l (nth l p).From (nth l p).To < l.length := by omega
    have := i2 _ (Nat.le_refl _) hlt
    by_cases c : plE l (nth l p).From (nth l p).To = p
    · rw [c]; exact ⟨hp, rfl, rfl⟩
    · have hs := List.pairwise_iff_getElem.1 h _ p hlt hp (by omega)
      rw [← nth_get hlt, ← nth_get hp] at hs
      exact absurd hs (by unfold edgeLt; unfold befE at this; exact this)
  · rintro ⟨h1, h2⟩
    exact ⟨_, nth_mem h1, h2⟩
theorem find_eq {l : List Edge} (h : l.Pairwise edgeLt) (hl : l.length ≤ 1000000) (a b : Int) : edge_find l a b = some (((plE l a b : Nat) : Int), hasE l a b) := by
  obtain ⟨i1, i2⟩ := plE_is h a b
  have hk := plE_le l a b
  have hb : slices_BinarySearchFunc_api_Edge_api_Edge_api_Edge_l l ⟨a, b, Rat.mk false [] []⟩ 0 ((l.length : Nat) : Int) = some ((plE l a b : Nat) : Int) :=
    bs_loop hl hk i1 i2 FU 0 l.length (by simp only [FU]; omega) (Nat.zero_le _) hk (Nat.le_refl _)
  have hz := hasE_at h (a := a) (b := b)
  by_cases c : plE l a b < l.length
  · have g1 : ((plE l a b : Nat) : Int) < ((l.length : Nat) : Int) := by omega
    have g2 : (0 : Int) ≤ ((plE l a b : Nat) : Int) := by omega
    have e3 : ((plE l a b : Nat) : Int).toNat = plE l a b := by omega
    have e4 : (cmpG (nth l (plE l a b)) ⟨a, b, Rat.mk false [] []⟩ == 0) = hasE l a b := by
      rw [Bool.eq_iff_iff, beq_iff_eq, cmpG_eq, hz]
      exact ⟨fun x => ⟨c, x⟩, fun x => x.2⟩
    simp only [edge_find, slices_BinarySearchFunc_api_Edge_api_Edge_api_Edge, hb, Option.bind_some, decide_eq_true g1, decide_eq_true g2, e3, decide_eq_true c, cond_true, edge_find_1_eq, e4]
  · have g1 : ¬ ((plE l a b : Nat) : Int) < ((l.length : Nat) : Int) := by omega
    have e4 : hasE l a b = false := by
      cases q : hasE l a b with
      | false => rfl
      | true => exact absurd (hz.1 q).1 c
    simp only [edge_find, slices_BinarySearchFunc_api_Edge_api_Edge_api_Edge, hb, Option.bind_some, decide_eq_false g1, cond_false, e4]
/-! ### surgery -/
theorem edges_uniq {l m : List Edge} (h : l.Pairwise edgeLt) (k : m.Pairwise edgeLt) (e : ∀ x, x ∈ l ↔ x ∈ m) : l = m := by
  have nd : ∀ {l : List Edge}, l.Pairwise edgeLt → l.Nodup := fun h => h.imp fun {a b} q => fun e => by subst e; unfold edgeLt at q; omega
  refine ((List.perm_ext_iff_of_nodup (nd h) (nd k)).2 e).eq_of_pairwise (le := edgeLt) (fun a b _ _ h1 h2 => ?_) h k
  unfold edgeLt at h1 h2; omega
theorem edgesOf_sorted (n : Nat) (t : Tab) : (edgesOf n t).Pairwise edgeLt :=
  grid_pair (fun i k i' k' x y h h' hlt => by
    rw [Option.map_eq_some_iff] at h h'
    obtain ⟨q, _, rfl⟩ := h
    obtain ⟨q', _, rfl⟩ := h'
    show (i : Int) < (i' : Int) ∨ ((i : Int) = (i' : Int) ∧ (k : Int) < (k' : Int))
    omega) n
theorem mem_edgesOf {n : Nat} {t : Tab} {e : Edge} : e ∈ edgesOf n t ↔ ∃ i k q, i < n ∧ k < n ∧ t i k = some q ∧ e = ⟨(i : Int), (k : Int), ofR q⟩ := by
  unfold edgesOf
  rw [mem_grid]
  constructor
  · rintro ⟨i, k, hi, hk, h⟩
    rw [Option.map_eq_some_iff] at h
    obtain ⟨q, hq, rfl⟩ := h
    exact ⟨i, k, q, hi, hk, hq, rfl⟩
  · rintro ⟨i, k, q, hi, hk, hq, rfl⟩
    exact ⟨i, k, hi, hk, by rw [hq]; rfl⟩
def delT (t : Tab) (a b : Nat) : Tab := fun i k => if i = a ∧ k = b then none else t i k
theorem has_edgesOf {n : Nat} {t : Tab} {a b : Nat} (ha : a < n) (hb : b < n) : hasE (edgesOf n t) (a : Int) (b : Int) = (t a b).isSome := by
  rw [Bool.eq_iff_iff, hasE_iff]
  constructor
  · rintro ⟨e, he, h1, h2⟩
    obtain ⟨i, k, q, hi, hk, hq, rfl⟩ := mem_edgesOf.1 he
    have e1 : i = a := by have : (i : Int) = a := h1; omega
    have e2 : k = b := by have : (k : Int) = b := h2; omega
    subst e1; subst e2
    rw [hq]; rfl
  · intro h
    obtain ⟨q, hq⟩ := Option.isSome_iff_exists.1 h
    exact ⟨_, mem_edgesOf.2 ⟨a, b, q, ha, hb, hq, rfl⟩, rfl, rfl⟩
theorem take_mem_lt {l : List Edge} {k : Nat} {x : Edge} (h : x ∈ l.take k) : ∃ p, p < k ∧ p < l.length ∧ nth l p = x := by
  obtain ⟨p, hp, e⟩ := List.getElem_of_mem h
  rw [List.length_take] at hp
  refine ⟨p, by omega, by omega, ?_⟩
  rw [nth_get (by omega), ← e, List.getElem_take]
theorem drop_mem_ge {l : List Edge} {k : Nat} {x : Edge} (h : x ∈ l.drop k) : ∃ p, k ≤ p ∧ p < l.length ∧ nth l p = x := by
  obtain ⟨p, hp, e⟩ := List.getElem_of_mem h
  rw [List.length_drop] at hp
  refine ⟨k + p, by omega, by omega, ?_⟩
  rw [nth_get (by omega), ← e, List.getElem_drop]
/-- an edge at its place, instead of what was there -/
theorem put_is {n : Nat} {t : Tab} {a b : Nat} (ha : a < n) (hb : b < n) (q : _root_.Rat) {m : Nat} (hm : m = if (t a b).isSome = true then plE (edgesOf n t) a b + 1 else plE (edgesOf n t) a b) :
    (edgesOf n t).take (plE (edgesOf n t) a b) ++ (⟨(a : Int), (b : Int), ofR q⟩ : Edge) :: (edgesOf n t).drop m = edgesOf n (updT t a b q) := by
  have hs := edgesOf_sorted n t
  obtain ⟨i1, i2⟩ := plE_is hs (a : Int) (b : Int)
  have hz := hasE_at hs (a := (a : Int)) (b := (b : Int))
  rw [has_edgesOf ha hb] at hz
  generalize plE (edgesOf n t) (a : Int) (b : Int) = k at *
  have hkm : k ≤ m := by rw [hm]; split <;> omega
  -- behind the place
  have hbig : ∀ p, m ≤ p → p < (edgesOf n t).length → (a : Int) < (nth (edgesOf n t) p).From ∨ ((a : Int) = (nth (edgesOf n t) p).From ∧ (b : Int) < (nth (edgesOf n t) p).To) := fun p hp hpl => by
    have h1 := i2 p (by omega) hpl
    by_cases c : (t a b).isSome = true
    · obtain ⟨z1, z2, z3⟩ := hz.1 c
      rw [if_pos c] at hm
      have hs' := List.pairwise_iff_getElem.1 hs k p z1 hpl (by omega)
      rw [← nth_get z1, ← nth_get hpl] at hs'
      unfold edgeLt at hs'
      omega
    · have h2 : ¬ ((nth (edgesOf n t) p).From = (a : Int) ∧ (nth (edgesOf n t) p).To = (b : Int)) := fun h => c (by
        rw [← has_edgesOf ha hb (t := t)]
        exact hasE_iff.2 ⟨_, nth_mem hpl, h⟩)
      unfold befE at h1
      omega
  refine edges_uniq ?_ (edgesOf_sorted _ _) fun x => ?_
  · refine List.pairwise_append.2 ⟨hs.sublist (List.take_sublist _ _), List.pairwise_cons.2 ⟨fun x hx => ?_, hs.sublist (List.drop_sublist _ _)⟩, fun x hx y hy => ?_⟩
    · obtain ⟨p, h1, h2, rfl⟩ := drop_mem_ge hx
      exact hbig p h1 h2
    · obtain ⟨p, h1, h2, rfl⟩ := take_mem_lt hx
      have h3 := i1 p h1
      rcases List.mem_cons.1 hy with rfl | hy
      · exact h3
      · obtain ⟨p', h1', h2', rfl⟩ := drop_mem_ge hy
        have h4 := hbig p' h1' h2'
        unfold befE at h3
        unfold edgeLt
        omega
  · rw [List.mem_append, List.mem_cons, mem_edgesOf]
    constructor
    · rintro (hx | rfl | hx)
      · obtain ⟨p, h1, h2, rfl⟩ := take_mem_lt hx
        have h3 := i1 p h1
        obtain ⟨i, j, r, hi, hj, hr, e⟩ := mem_edgesOf.1 (nth_mem h2)
        rw [e] at h3 ⊢
        refine ⟨i, j, r, hi, hj, ?_, rfl⟩
        unfold updT
        rw [if_neg (fun c => by unfold befE at h3; simp only at h3; omega)]
        exact hr
      · exact ⟨a, b, q, ha, hb, by unfold updT; rw [if_pos ⟨rfl, rfl⟩], rfl⟩
      · obtain ⟨p, h1, h2, rfl⟩ := drop_mem_ge hx
        have h3 := hbig p h1 h2
        obtain ⟨i, j, r, hi, hj, hr, e⟩ := mem_edgesOf.1 (nth_mem h2)
        rw [e] at h3 ⊢
        refine ⟨i, j, r, hi, hj, ?_, rfl⟩
        unfold updT
        rw [if_neg (fun c => by simp only at h3; omega)]
        exact hr
    · rintro ⟨i, j, r, hi, hj, hr, rfl⟩
      unfold updT at hr
      by_cases c : i = a ∧ j = b
      · rw [if_pos c] at hr
        cases hr
        rw [c.1, c.2]
        exact .inr (.inl rfl)
      · rw [if_neg c] at hr
        have hx : (⟨(i : Int), (j : Int), ofR r⟩ : Edge) ∈ edgesOf n t := mem_edgesOf.2 ⟨i, j, r, hi, hj, hr, rfl⟩
        obtain ⟨p, hp, e⟩ := mem_nth hx
        by_cases d : p < k
        · left
          rw [← e, nth_get hp]
          exact List.mem_take_iff_getElem.2 ⟨p, by omega, rfl⟩
        · right; right
          have hmp : m ≤ p := by
            rw [hm]
            by_cases c2 : (t a b).isSome = true
            · rw [if_pos c2]
              by_cases d2 : p = k
              · exfalso
                obtain ⟨z1, z2, z3⟩ := hz.1 c2
                rw [← d2, e] at z2 z3
                have z2 : (i : Int) = a := z2
                have z3 : (j : Int) = b := z3
                omega
              · omega
            · rw [if_neg c2]; omega
          rw [← e, nth_get hp]
          exact List.mem_drop_iff_getElem.2 ⟨p - m, by omega, by congr 1; omega⟩
/-- without an edge that is there -/
theorem cut_is {n : Nat} {t : Tab} {a b : Nat} (ha : a < n) (hb : b < n) (h : (t a b).isSome = true) :
    (edgesOf n t).take (plE (edgesOf n t) a b) ++ (edgesOf n t).drop (plE (edgesOf n t) a b + 1) = edgesOf n (delT t a b) := by
  have hs := edgesOf_sorted n t
  obtain ⟨i1, i2⟩ := plE_is hs (a : Int) (b : Int)
  have hz := hasE_at hs (a := (a : Int)) (b := (b : Int))
  rw [has_edgesOf ha hb] at hz
  obtain ⟨z1, z2, z3⟩ := hz.1 h
  generalize plE (edgesOf n t) (a : Int) (b : Int) = k at *
  have hbig : ∀ p, k + 1 ≤ p → p < (edgesOf n t).length → (a : Int) < (nth (edgesOf n t) p).From ∨ ((a : Int) = (nth (edgesOf n t) p).From ∧ (b : Int) < (nth (edgesOf n t) p).To) := fun p hp hpl => by
    have hs' := List.pairwise_iff_getElem.1 hs k p z1 hpl (by omega)
    rw [← nth_get z1, ← nth_get hpl] at hs'
    unfold edgeLt at hs'
    omega
  refine edges_uniq (List.pairwise_append.2 ⟨hs.sublist (List.take_sublist _ _), hs.sublist (List.drop_sublist _ _), fun x hx y hy => ?_⟩) (edgesOf_sorted _ _) fun x => ?_
  · obtain ⟨p, h1, h2, rfl⟩ := take_mem_lt hx
    obtain ⟨p', h1', h2', rfl⟩ := drop_mem_ge hy
    have h3 := i1 p h1
    have h4 := hbig p' h1' h2'
    unfold befE at h3
    unfold edgeLt
    omega
  · rw [List.mem_append, mem_edgesOf]
    constructor
    · rintro (hx | hx)
      · obtain ⟨p, h1, h2, rfl⟩ := take_mem_lt hx
        have h3 := i1 p h1
        obtain ⟨i, j, r, hi, hj, hr, e⟩ := mem_edgesOf.1 (nth_mem h2)
        rw [e] at h3 ⊢
        refine ⟨i, j, r, hi, hj, ?_, rfl⟩
        unfold delT
        rw [if_neg (fun c => by unfold befE at h3; simp only at h3; omega)]
        exact hr
      · obtain ⟨p, h1, h2, rfl⟩ := drop_mem_ge hx
        have h3 := hbig p h1 h2
        obtain ⟨i, j, r, hi, hj, hr, e⟩ := mem_edgesOf.1 (nth_mem h2)
        rw [e] at h3 ⊢
        refine ⟨i, j, r, hi, hj, ?_, rfl⟩
        unfold delT
        rw [if_neg (fun c => by simp only at h3; omega)]
        exact hr
    · rintro ⟨i, j, r, hi, hj, hr, rfl⟩
      unfold delT at hr
      by_cases c : i = a ∧ j = b
      · rw [if_pos c] at hr; cases hr
      · rw [if_neg c] at hr
        have hx : (⟨(i : Int), (j : Int), ofR r⟩ : Edge) ∈ edgesOf n t := mem_edgesOf.2 ⟨i, j, r, hi, hj, hr, rfl⟩
        obtain ⟨p, hp, e⟩ := mem_nth hx
        by_cases d : p < k
        · left
          rw [← e, nth_get hp]
          exact List.mem_take_iff_getElem.2 ⟨p, by omega, rfl⟩
        · right
          have d2 : p ≠ k := fun d2 => by
            rw [← d2, e] at z2 z3
            have z2 : (i : Int) = a := z2
            have z3 : (j : Int) = b := z3
            omega
          rw [← e, nth_get hp]
          exact List.mem_drop_iff_getElem.2 ⟨p - (k + 1), by omega, by congr 1; omega⟩
end Go.Ab.M
end

section
/-
  PLAIN LAW: AN EDGE GOES, BY THE PROGRAM.
-/
namespace Go.Ab.M
open Go.Proofs Go.Ab
set_option linter.unusedVariables false
set_option linter.unusedSimpArgs false

abbrev Ad := Nat × Nat × _root_.Rat
def adT (t : Tab) (x : Ad) : Tab := updT t x.1 x.2.1 ((t x.1 x.2.1).getD 0 + x.2.2)
def accT (t : Tab) (l : List Ad) : Tab := l.foldl adT t
theorem accT_snoc (t : Tab) (l : List Ad) (x : Ad) : accT t (l ++ [x]) = adT (accT t l) x := by unfold accT; rw [List.foldl_append]; rfl
theorem accT_off : ∀ (l : List Ad) (t : Tab) {i k : Nat}, (∀ x, x ∈ l → ¬ (i = x.1 ∧ k = x.2.1)) → accT t l i k = t i k
  | [], t, i, k, _ => rfl
  | x :: l, t, i, k, h => by
    show accT (adT t x) l i k = _
    rw [accT_off l _ fun y hy => h y (by simp [hy])]
    unfold adT updT
    rw [if_neg (h x (by simp))]
/-- pairs apart: nothing is added twice -/
def ApL (l : List Ad) : Prop := l.Pairwise fun x y => ¬ (x.1 = y.1 ∧ x.2.1 = y.2.1)
theorem accT_at {l : List Ad} (h : ApL l) {t : Tab} {p : Nat} (hp : p < l.length) : accT t (l.take p) (nth l p).1 (nth l p).2.1 = t (nth l p).1 (nth l p).2.1 := by
  refine accT_off _ _ fun x hx hc => ?_
  obtain ⟨j, hj, e⟩ := List.getElem_of_mem hx
  rw [List.length_take] at hj
  have := List.pairwise_iff_getElem.1 h j p (by omega) hp (by omega)
  rw [nth_get hp] at hc
  rw [List.getElem_take] at e
  rw [e] at this
  exact this ⟨hc.1.symm, hc.2.symm⟩
theorem accT_sz {s m : Nat} {t : Tab} (ht : szT s t) (hs : 0 < s) {l : List Ad} (h : ApL l) (hl : ∀ x, x ∈ l → szQ m x.2.2) : ∀ p, p ≤ l.length → szT (s + m + 1) (accT t (l.take p)) := fun p => by
  induction p with
  | zero => exact fun _ i k q hq => (ht i k q hq).mono (by omega)
  | succ p ih =>
    intro hp
    have hp' : p < l.length := by omega
    rw [take_nth hp', accT_snoc]
    intro i k q hq
    unfold adT updT at hq
    by_cases c : i = (nth l p).1 ∧ k = (nth l p).2.1
    · rw [if_pos c, accT_at h hp'] at hq
      cases hq
      exact szQ.add (ht.getD hs _ _) (hl _ (nth_mem hp'))
    · rw [if_neg c] at hq
      exact ih (by omega) i k q hq
theorem edgesOf_le {n : Nat} (hn : n ≤ 480) (t : Tab) : (edgesOf n t).length ≤ 230400 := Nat.le_trans (edgesOf_len n t) (nn_le hn)
theorem nth_app0 {α : Type} [Inhabited α] {l m : List α} {x : α} {k : Nat} (h : l.length = k) : nth (l ++ [x] ++ m) k = x := by
  subst h
  simp [nth, List.getD]
theorem set_app0 {α : Type} {l m : List α} {x y : α} {k : Nat} (h : l.length = k) : (l ++ [x] ++ m).set k y = l ++ y :: m := by
  subst h
  simp
theorem set_split {α : Type} (y : α) : ∀ {l : List α} {k : Nat}, k < l.length → l.set k y = l.take k ++ y :: l.drop (k + 1)
  | [], k, h => by simp at h
  | x :: l, 0, h => by simp
  | x :: l, k + 1, h => by simp [set_split y (l := l) (k := k) (by simpa using h)]
/-- what one step of the loop works with -/
theorem one_put {n : Nat} (hn : n ≤ 480) {u : Tab} {x y : Nat} (hx : x < n) (hy : y < n) {z : _root_.Rat} {K : Nat} (hK0 : 0 < K) (hK : K ≤ 1000000) (hu : szT K u) (hz : szQ K z) :
    edge_find (edgesOf n u) (x : Int) (y : Int) = some (((plE (edgesOf n u) x y : Nat) : Int), (u x y).isSome) ∧
    (u x y = none → edges_put (edgesOf n u) [(⟨(x : Int), (y : Int), Rat.mk false [] []⟩ : Edge)] ((plE (edgesOf n u) x y : Nat) : Int) 1 = some ((edgesOf n u).take (plE (edgesOf n u) x y) ++ [(⟨(x : Int), (y : Int), Rat.mk false [] []⟩ : Edge)] ++ (edgesOf n u).drop (plE (edgesOf n u) x y)) ∧
      nth ((edgesOf n u).take (plE (edgesOf n u) x y) ++ [(⟨(x : Int), (y : Int), Rat.mk false [] []⟩ : Edge)] ++ (edgesOf n u).drop (plE (edgesOf n u) x y)) (plE (edgesOf n u) x y) = (⟨(x : Int), (y : Int), Rat.mk false [] []⟩ : Edge) ∧
      plE (edgesOf n u) x y < ((edgesOf n u).take (plE (edgesOf n u) x y) ++ [(⟨(x : Int), (y : Int), Rat.mk false [] []⟩ : Edge)] ++ (edgesOf n u).drop (plE (edgesOf n u) x y)).length ∧
      ratio_Add (Rat.mk false [] []) (ofR z) = some (ofR (0 + z)) ∧
      ((edgesOf n u).take (plE (edgesOf n u) x y) ++ [(⟨(x : Int), (y : Int), Rat.mk false [] []⟩ : Edge)] ++ (edgesOf n u).drop (plE (edgesOf n u) x y)).set (plE (edgesOf n u) x y) (⟨(x : Int), (y : Int), ofR (0 + z)⟩ : Edge) = edgesOf n (adT u (x, y, z))) ∧
    (∀ q, u x y = some q → nth (edgesOf n u) (plE (edgesOf n u) x y) = ⟨(x : Int), (y : Int), ofR q⟩ ∧ plE (edgesOf n u) x y < (edgesOf n u).length ∧ ratio_Add (ofR q) (ofR z) = some (ofR (q + z)) ∧
      (edgesOf n u).set (plE (edgesOf n u) x y) ⟨(x : Int), (y : Int), ofR (q + z)⟩ = edgesOf n (adT u (x, y, z))) := by
  have hs := edgesOf_sorted n u
  have hl := edgesOf_le hn u
  have hk := plE_le (edgesOf n u) (x : Int) (y : Int)
  have hput := fun q => put_is hx hy (t := u) q (m := if (u x y).isSome = true then plE (edgesOf n u) x y + 1 else plE (edgesOf n u) x y) rfl
  have hz' := hasE_at hs (a := (x : Int)) (b := (y : Int))
  rw [has_edgesOf hx hy] at hz'
  have hmem : ∀ q, u x y = some q → nth (edgesOf n u) (plE (edgesOf n u) x y) = ⟨(x : Int), (y : Int), ofR q⟩ ∧ plE (edgesOf n u) x y < (edgesOf n u).length := fun q hq => by
    obtain ⟨z1, z2, z3⟩ := hz'.1 (by rw [hq]; rfl)
    refine ⟨?_, z1⟩
    obtain ⟨i, k, r, hi, hk, hr, e⟩ := mem_edgesOf.1 (nth_mem z1)
    rw [e] at z2 z3 ⊢
    have z2 : (i : Int) = x := z2
    have z3 : (k : Int) = y := z3
    have e1 : i = x := by omega
    have e2 : k = y := by omega
    subst e1; subst e2
    rw [hq] at hr
    cases hr
    rfl
  refine ⟨?_, fun hnone => ?_, fun q hq => ?_⟩
  · rw [find_eq hs (by omega), has_edgesOf hx hy]
  · rw [hnone] at hput
    simp only [Option.isSome_none, Bool.false_eq_true, if_false] at hput
    have ht : ((edgesOf n u).take (plE (edgesOf n u) x y)).length = plE (edgesOf n u) x y := by rw [List.length_take]; omega
    refine ⟨?_, nth_app0 ht, by rw [List.length_append, List.length_append, ht, List.length_singleton]; omega, ?_, ?_⟩
    · have g : (decide ((none : Option Nat).getD 1 = 1) && (decide ([(⟨(x : Int), (y : Int), Rat.mk false [] []⟩ : Edge)].length = 1) && (decide (0 ≤ ((plE (edgesOf n u) x y : Nat) : Int)) && (decide (((plE (edgesOf n u) x y : Nat) : Int) ≤ ((edgesOf n u).length : Int)) && decide ((edgesOf n u).length ≤ 1000000000))))) = true := by
        simp only [Bool.and_eq_true, decide_eq_true_eq]
        exact ⟨rfl, rfl, by omega, by omega, by omega⟩
      unfold edges_put
      rw [g, Int.toNat_natCast]; rfl
    · have z0 : szQ K (0 : _root_.Rat) := (SZ.zero 1 0).sz (Nat.one_lt_pow (by omega) (by decide)) (Nat.pow_pos (by decide)) hK0
      have := ratio_Add_eq (n := K) (x := Rat.mk false [] []) (y := ofR z) ⟨Wds.nil, Wds.nil, Nat.zero_le _, Nat.zero_le _⟩ hz.ok hK0 hK
      rw [qR_ofR] at this
      exact this
    · rw [set_app0 ht, hput]
      unfold adT
      rw [hnone]; rfl
  · obtain ⟨m1, m2⟩ := hmem q hq
    rw [hq] at hput
    simp only [Option.isSome_some, if_true] at hput
    refine ⟨m1, m2, ?_, ?_⟩
    · have := ratio_Add_eq (n := K) (hu x y q hq).ok hz.ok hK0 hK
      rw [qR_ofR, qR_ofR] at this
      exact this
    · rw [set_split _ m2, hput]
      unfold adT
      rw [hq]; rfl
theorem edges_T {g : Graph} {I M O s : Nat} (h : RGr g I M O) (hg : g.Ok s) : g.Edges = edgesOf (I + M + O) g.T := by
  refine edges_uniq h.s (edgesOf_sorted _ _) fun x => ⟨fun hx => ?_, fun hx => ?_⟩
  · have he := h.e x hx
    refine mem_edgesOf.2 ⟨x.From.toNat, x.To.toNat, qR x.W, by omega, by omega, T_mem h hx, ?_⟩
    rw [← W_of h hg hx, Int.toNat_of_nonneg (by omega), Int.toNat_of_nonneg (by omega)]
  · obtain ⟨i, k, q, hi, hk, hq, rfl⟩ := mem_edgesOf.1 hx
    obtain ⟨w, hw, h1, h2, h3⟩ := T_some h hq
    have : w = ⟨(i : Int), (k : Int), ofR q⟩ := by
      rw [← h1, ← h2, ← h3, ← W_of h hg hw]
    rw [← this]; exact hw
end Go.Ab.M
end

section
/-
  PLAIN LAW: AN EDGE GOES, IN FRONT AND BACK, BY THE PROGRAM: as a table.
-/
namespace Go.Ab.M
open Go.Proofs Go.Ab
set_option linter.unusedVariables false
set_option linter.unusedSimpArgs false

def adF (n : Nat) (t : Tab) (a b : Nat) : List Ad := (rowN n t b).map fun k => (a, k, (t a b).getD 0 * (t b k).getD 0)
def adB (n : Nat) (t : Tab) (a b : Nat) : List Ad := (colN n t a).map fun i => (i, b, (t a b).getD 0 * (t i a).getD 0)
theorem adF_ap (n : Nat) (t : Tab) (a b : Nat) : ApL (adF n t a b) := List.pairwise_map.2 ((rowN_nd n t b).imp fun {x y} h => fun c => h c.2)
theorem adB_ap (n : Nat) (t : Tab) (a b : Nat) : ApL (adB n t a b) := List.pairwise_map.2 ((colN_nd n t a).imp fun {x y} h => fun c => h c.1)
theorem adF_sz {s n : Nat} {t : Tab} (h : szT s t) (hs : 0 < s) (a b : Nat) : ∀ x, x ∈ adF n t a b → szQ (s + s) x.2.2 := fun x hx => by
  obtain ⟨k, _, rfl⟩ := List.mem_map.1 hx
  exact (h.getD hs _ _).mul (h.getD hs _ _) hs
theorem adB_sz {s n : Nat} {t : Tab} (h : szT s t) (hs : 0 < s) (a b : Nat) : ∀ x, x ∈ adB n t a b → szQ (s + s) x.2.2 := fun x hx => by
  obtain ⟨k, _, rfl⟩ := List.mem_map.1 hx
  exact (h.getD hs _ _).mul (h.getD hs _ _) hs
theorem delT_sz {s : Nat} {t : Tab} (h : szT s t) (a b : Nat) : szT s (delT t a b) := fun i k q hq => by
  unfold delT at hq
  by_cases c : i = a ∧ k = b
  · rw [if_pos c] at hq; cases hq
  · rw [if_neg c] at hq; exact h i k q hq
section
variable {g : Graph} {I M O s : Nat} (h : RGr g I M O) (hg : g.Ok s) (hs : 0 < s) (hK : 3 * s + 1 ≤ 1000000) {a b : Nat} {c0 : _root_.Rat} (hab : g.T a b = some c0)
include h hg hs hK hab
theorem goesF {x0 : List Int} {idx : Int} (hi : (nth g.Edges idx.toNat).W = ofR c0) :
    edge_goes_l (a : Int) g idx (g.outs (b : Int)) x0 0 (edgesOf (I + M + O) (delT g.T a b)) = some (edgesOf (I + M + O) (accT (delT g.T a b) (adF (I + M + O) g.T a b))) := by
  have i2 := h.i2; have m2 := h.m2; have o2 := h.o2
  have hT := T_sz h hg hs
  have ap := adF_ap (I + M + O) g.T a b
  have asz := adF_sz (n := I + M + O) hT hs a b
  have al : (adF (I + M + O) g.T a b).length = (rowN (I + M + O) g.T b).length := List.length_map _
  have rl := rowN_len (I + M + O) g.T b
  have ol := (nth_map_eq (outs_to h b)).1
  have ha : a < I + M + O := by have := T_lt h hab; omega
  unfold edge_goes_l
  have := loop_run (round := fun σ : Nat × List Edge => edge_goes_l_rd (a : Int) g idx (g.outs (b : Int)) x0 σ.1 σ.2) (fun p => (p, edgesOf (I + M + O) (accT (delT g.T a b) ((adF (I + M + O) g.T a b).take p)))) (adF (I + M + O) g.T a b).length (r := edgesOf (I + M + O) (accT (delT g.T a b) ((adF (I + M + O) g.T a b).take (adF (I + M + O) g.T a b).length))) (fun p hp => ?_) ?_ (by simp only [FU]; omega)
  · rw [List.take_length] at this
    rw [List.take_zero] at this
    exact this
  · have hr : p < (rowN (I + M + O) g.T b).length := by omega
    obtain ⟨b1, b2, b3⟩ := outs_at h hr
    have kb := (mem_rowN.1 (nth_mem hr)).1
    have hn : nth (adF (I + M + O) g.T a b) p = (a, nth (rowN (I + M + O) g.T b) p, c0 * qR (nth (g.outs (b : Int)) p).W) := by
      unfold adF
      rw [nth_mapA hr, hab, b3]; rfl
    have usz := accT_sz (delT_sz hT a b) hs ap asz p (by omega)
    have ez := asz _ (nth_mem hp)
    rw [hn] at ez
    have ez : szQ (s + s) (c0 * qR (nth (g.outs (b : Int)) p).W) := ez
    have hK' : s + (s + s) + 1 ≤ 1000000 := by omega
    obtain ⟨f1, f2, f3⟩ := one_put (n := I + M + O) (by omega) (u := accT (delT g.T a b) ((adF (I + M + O) g.T a b).take p)) (x := a) (y := nth (rowN (I + M + O) g.T b) p) ha kb (z := c0 * qR (nth (g.outs (b : Int)) p).W) (K := s + (s + s) + 1) (by omega) hK' usz (ez.mono (by omega))
    have mul := ratio_Mul_eq (n := s) (x := ofR c0) (y := (nth (g.outs (b : Int)) p).W) (hT a b c0 hab).ok (hg.mem b1) (by omega)
    rw [qR_ofR] at mul
    have e2 : accT (delT g.T a b) ((adF (I + M + O) g.T a b).take (p + 1)) = adT (accT (delT g.T a b) ((adF (I + M + O) g.T a b).take p)) (a, nth (rowN (I + M + O) g.T b) p, c0 * qR (nth (g.outs (b : Int)) p).W) := by
      rw [take_nth hp, accT_snoc, hn]
    show edge_goes_l_rd (a : Int) g idx (g.outs (b : Int)) x0 p (edgesOf (I + M + O) (accT (delT g.T a b) ((adF (I + M + O) g.T a b).take p))) = some (.inl (p + 1, edgesOf (I + M + O) (accT (delT g.T a b) ((adF (I + M + O) g.T a b).take (p + 1)))))
    rw [e2]
    generalize accT (delT g.T a b) ((adF (I + M + O) g.T a b).take p) = u at *
    generalize nth (rowN (I + M + O) g.T b) p = k at *
    have g1 : ((p : Nat) : Int) < ((g.outs (b : Int)).length : Int) := by omega
    have g1' : p < (g.outs (b : Int)).length := by omega
    have e3 : ∀ m : Nat, ((m : Nat) : Int).toNat = m := fun m => Int.toNat_natCast m
    have g2 : ∀ m : Nat, (0 : Int) ≤ ((m : Nat) : Int) := fun m => by omega
    have ii : inK .i64 (((p : Nat) : Int) + 1) = true := inK_i64 (by omega) (by omega)
    cases hu : u a k with
    | none =>
      rw [hu] at f1
      obtain ⟨t1, t2, t3, t4, t5⟩ := f2 hu
      simp only [edge_goes_l_rd, edge_Front_1, decide_eq_true g1, decide_eq_true g1', cond_true, Option.bind_some, b2, f1, Option.isSome_none, Bool.not_false, t1, decide_eq_true (g2 _), e3, decide_eq_true t3, hi, mul, t2, t4, t5, ii]
    | some q =>
      rw [hu] at f1
      obtain ⟨t1, t2, t3, t4⟩ := f3 q hu
      simp only [edge_goes_l_rd, edge_Front_1, decide_eq_true g1, decide_eq_true g1', cond_true, Option.bind_some, b2, f1, Option.isSome_some, Bool.not_true, cond_false, decide_eq_true (g2 _), e3, decide_eq_true t2, hi, mul, t1, t3, t4, ii]
  · have g1 : ¬ (((adF (I + M + O) g.T a b).length : Nat) : Int) < ((g.outs (b : Int)).length : Int) := by omega
    simp only [edge_goes_l_rd, decide_eq_false g1, cond_false]
theorem goesB {x0 : List Int} {idx : Int} (hi : (nth g.Edges idx.toNat).W = ofR c0) :
    edge_goes_l_2 (b : Int) g idx (g.ins (a : Int)) x0 0 (edgesOf (I + M + O) (delT g.T a b)) = some (edgesOf (I + M + O) (accT (delT g.T a b) (adB (I + M + O) g.T a b))) := by
  have i2 := h.i2; have m2 := h.m2; have o2 := h.o2
  have hT := T_sz h hg hs
  have ap := adB_ap (I + M + O) g.T a b
  have asz := adB_sz (n := I + M + O) hT hs a b
  have al : (adB (I + M + O) g.T a b).length = (colN (I + M + O) g.T a).length := List.length_map _
  have rl := colN_len (I + M + O) g.T a
  have ol := (nth_map_eq (ins_from h a)).1
  have hb : b < I + M + O := by have := T_lt h hab; omega
  unfold edge_goes_l_2
  have := loop_run (round := fun σ : Nat × List Edge => edge_goes_l_2_rd (b : Int) g idx (g.ins (a : Int)) x0 σ.1 σ.2) (fun p => (p, edgesOf (I + M + O) (accT (delT g.T a b) ((adB (I + M + O) g.T a b).take p)))) (adB (I + M + O) g.T a b).length (r := edgesOf (I + M + O) (accT (delT g.T a b) ((adB (I + M + O) g.T a b).take (adB (I + M + O) g.T a b).length))) (fun p hp => ?_) ?_ (by simp only [FU]; omega)
  · rw [List.take_length] at this
    rw [List.take_zero] at this
    exact this
  · have hr : p < (colN (I + M + O) g.T a).length := by omega
    obtain ⟨b1, b2, b3⟩ := ins_at h hr
    have kb := (mem_colN.1 (nth_mem hr)).1
    have hn : nth (adB (I + M + O) g.T a b) p = (nth (colN (I + M + O) g.T a) p, b, c0 * qR (nth (g.ins (a : Int)) p).W) := by
      unfold adB
      rw [nth_mapA hr, hab, b3]; rfl
    have usz := accT_sz (delT_sz hT a b) hs ap asz p (by omega)
    have ez := asz _ (nth_mem hp)
    rw [hn] at ez
    have ez : szQ (s + s) (c0 * qR (nth (g.ins (a : Int)) p).W) := ez
    have hK' : s + (s + s) + 1 ≤ 1000000 := by omega
    obtain ⟨f1, f2, f3⟩ := one_put (n := I + M + O) (by omega) (u := accT (delT g.T a b) ((adB (I + M + O) g.T a b).take p)) (x := nth (colN (I + M + O) g.T a) p) (y := b) kb hb (z := c0 * qR (nth (g.ins (a : Int)) p).W) (K := s + (s + s) + 1) (by omega) hK' usz (ez.mono (by omega))
    have mul := ratio_Mul_eq (n := s) (x := ofR c0) (y := (nth (g.ins (a : Int)) p).W) (hT a b c0 hab).ok (hg.mem b1) (by omega)
    rw [qR_ofR] at mul
    have e2 : accT (delT g.T a b) ((adB (I + M + O) g.T a b).take (p + 1)) = adT (accT (delT g.T a b) ((adB (I + M + O) g.T a b).take p)) (nth (colN (I + M + O) g.T a) p, b, c0 * qR (nth (g.ins (a : Int)) p).W) := by
      rw [take_nth hp, accT_snoc, hn]
    show edge_goes_l_2_rd (b : Int) g idx (g.ins (a : Int)) x0 p (edgesOf (I + M + O) (accT (delT g.T a b) ((adB (I + M + O) g.T a b).take p))) = some (.inl (p + 1, edgesOf (I + M + O) (accT (delT g.T a b) ((adB (I + M + O) g.T a b).take (p + 1)))))
    rw [e2]
    generalize accT (delT g.T a b) ((adB (I + M + O) g.T a b).take p) = u at *
    generalize nth (colN (I + M + O) g.T a) p = k at *
    have g1 : ((p : Nat) : Int) < ((g.ins (a : Int)).length : Int) := by omega
    have g1' : p < (g.ins (a : Int)).length := by omega
    have e3 : ∀ m : Nat, ((m : Nat) : Int).toNat = m := fun m => Int.toNat_natCast m
    have g2 : ∀ m : Nat, (0 : Int) ≤ ((m : Nat) : Int) := fun m => by omega
    have ii : inK .i64 (((p : Nat) : Int) + 1) = true := inK_i64 (by omega) (by omega)
    cases hu : u k b with
    | none =>
      rw [hu] at f1
      obtain ⟨t1, t2, t3, t4, t5⟩ := f2 hu
      simp only [edge_goes_l_2_rd, edge_Back_1, decide_eq_true g1, decide_eq_true g1', cond_true, Option.bind_some, b2, f1, Option.isSome_none, Bool.not_false, t1, decide_eq_true (g2 _), e3, decide_eq_true t3, hi, mul, t2, t4, t5, ii]
    | some q =>
      rw [hu] at f1
      obtain ⟨t1, t2, t3, t4⟩ := f3 q hu
      simp only [edge_goes_l_2_rd, edge_Back_1, decide_eq_true g1, decide_eq_true g1', cond_true, Option.bind_some, b2, f1, Option.isSome_some, Bool.not_true, cond_false, decide_eq_true (g2 _), e3, decide_eq_true t2, hi, mul, t1, t3, t4, ii]
  · have g1 : ¬ (((adB (I + M + O) g.T a b).length : Nat) : Int) < ((g.ins (a : Int)).length : Int) := by omega
    simp only [edge_goes_l_2_rd, decide_eq_false g1, cond_false]
end
/-- an edge has gone -/
def goT (n : Nat) (t : Tab) (a b : Nat) (back : Bool) : Tab := accT (delT t a b) (if back = true then adB n t a b else adF n t a b)
def Graph.go (g : Graph) (n a b : Nat) (back : Bool) : Graph := ⟨g.Ins, g.Mids, g.Outs, edgesOf n (goT n g.T a b back), g.Gone⟩
theorem has_T {g : Graph} {I M O s : Nat} (h : RGr g I M O) (hg : g.Ok s) {a b : Int} (hh : hasE g.Edges a b = true) : ∃ (x y : Nat) (q : _root_.Rat), a = (x : Int) ∧ b = (y : Int) ∧ g.T x y = some q ∧ x < I + M ∧ I ≤ y ∧ y < I + M + O ∧ x < y := by
  obtain ⟨e, he, rfl, rfl⟩ := hasE_iff.1 hh
  have h1 := h.e e he
  have h2 := T_mem h he
  have := T_lt h h2
  exact ⟨e.From.toNat, e.To.toNat, _, by omega, by omega, h2, by omega, by omega, by omega, by omega⟩
theorem cut_eq {g : Graph} {I M O s : Nat} (h : RGr g I M O) (hg : g.Ok s) {x y : Nat} {q : _root_.Rat} (hT : g.T x y = some q) :
    plE g.Edges x y < g.Edges.length ∧ (nth g.Edges (plE g.Edges x y)).W = ofR q ∧ g.Edges.take (plE g.Edges x y) ++ g.Edges.drop (plE g.Edges x y + 1) = edgesOf (I + M + O) (delT g.T x y) := by
  have e := edges_T h hg
  have hlt := T_lt h hT
  have hx : x < I + M + O := by omega
  have hy : y < I + M + O := by omega
  have hs := edgesOf_sorted (I + M + O) g.T
  have hz := (hasE_at hs (a := (x : Int)) (b := (y : Int))).1 (by rw [has_edgesOf hx hy, hT]; rfl)
  rw [e]
  refine ⟨hz.1, ?_, cut_is hx hy (by rw [hT]; rfl)⟩
  obtain ⟨i, k, r, hi, hk, hr, e2⟩ := mem_edgesOf.1 (nth_mem hz.1)
  have z2 := hz.2.1
  have z3 := hz.2.2
  rw [e2] at z2 z3 ⊢
  have z2 : (i : Int) = x := z2
  have z3 : (k : Int) = y := z3
  have e1 : i = x := by omega
  have e3 : k = y := by omega
  subst e1; subst e3
  rw [hT] at hr
  cases hr
  rfl
/-- what an edge's going tells -/
def Graph.goR (g : Graph) (n : Nat) (a b : Int) (back : Bool) : Graph × Int × Int :=
  if hasE g.Edges a b = true ∧ g.shape.isMid (if back = true then a else b) = true then (g.go n a.toNat b.toNat back, (((if back = true then colN n g.T a.toNat else rowN n g.T b.toNat).length : Nat) : Int), 0) else (⟨0, 0, 0, [], []⟩, 0, 9)
theorem edge_mid_eq {g : Graph} (h : g.shape.sized = true) (v : Int) : edge_mid g v = some (g.shape.isMid v) := by
  have hs := sized_iff.1 h
  simp only [Graph.shape] at hs
  simp (disch := omega) only [edge_mid, Bool.cond_decide, inK_i64, cond_true, Shape.isMid, Graph.shape, ge_iff_le]
  split
  · rename_i h1; simp [h1]
  · rename_i h1; simp [h1]
theorem rsz {g : Graph} (h : g.right = true) : g.shape.sized = true := by
  simp only [Graph.right, Bool.and_eq_true] at h
  exact h.1.1
theorem Front_eq {g : Graph} {I M O s : Nat} (h : RGr g I M O) (hg : g.Ok s) (hs : 0 < s) (hK : 3 * s + 1 ≤ 1000000) (a b : Int) : edge_Front g a b = some (g.goR (I + M + O) a b false) := by
  have i2 := h.i2; have m2 := h.m2; have o2 := h.o2
  have hr := graph_Right_eq (n := s) (by omega) hg
  rw [h.right] at hr
  have el := hg.e
  have hf := find_eq h.s (by omega) a b
  have hm := edge_mid_eq (rsz h.right) b
  unfold Graph.goR
  simp only [Bool.false_eq_true, if_false]
  cases hh : hasE g.Edges a b with
  | false =>
    rw [hh] at hf
    rw [if_neg (fun c => by cases c.1)]
    simp only [edge_Front, hr, hf, Option.bind_some, Bool.not_true, cond_false, Bool.not_false, cond_true]
  | true =>
    rw [hh] at hf
    cases hmid : g.shape.isMid b with
    | false =>
      rw [hmid] at hm
      rw [if_neg (fun c => by cases c.2)]
      simp only [edge_Front, hr, hf, hm, Option.bind_some, Bool.not_true, cond_false, Bool.not_false, cond_true]
    | true =>
      rw [hmid] at hm
      obtain ⟨x, y, q, rfl, rfl, hT, q1, q2, q3, q4⟩ := has_T h hg hh
      obtain ⟨c1, c2, c3⟩ := cut_eq h hg hT
      have go := goesF h hg hs hK hT (x0 := g.Gone) (idx := ((plE g.Edges x y : Nat) : Int)) (by rw [Int.toNat_natCast]; exact c2)
      have ho := graph_Out_eq (n := s) (by omega) hg (y : Int)
      rw [if_pos h.right] at ho
      have ol := (nth_map_eq (outs_to h y)).1
      have g1 : (0 : Int) ≤ ((plE g.Edges x y : Nat) : Int) := by omega
      have cl : slices_Clone_int_int g.Gone = some g.Gone := by
        have := hg.g
        unfold slices_Clone_int_int
        rw [decide_eq_true (by omega)]; rfl
      have ce : slices_Clone_api_Edge_api_Edge_2 g.Edges = some g.Edges := by
        unfold slices_Clone_api_Edge_api_Edge_2
        rw [decide_eq_true (show 0 < g.Edges.length by omega), decide_eq_true (show 0 + g.Edges.length ≤ 2147483648 by omega)]; rfl
      have cut : edges_cut g.Edges ((plE g.Edges x y : Nat) : Int) (((plE g.Edges x y : Nat) : Int) + 1) = some (edgesOf (I + M + O) (delT g.T x y)) := by
        unfold edges_cut
        have e1 : (((plE g.Edges x y : Nat) : Int) + 1).toNat = plE g.Edges x y + 1 := by omega
        rw [decide_eq_true g1, decide_eq_true (show ((plE g.Edges x y : Nat) : Int) < ((plE g.Edges x y : Nat) : Int) + 1 by omega), decide_eq_true (show ((plE g.Edges x y : Nat) : Int) + 1 ≤ (g.Edges.length : Int) by omega), e1, Int.toNat_natCast, c3]
        rfl
      have ii : inK .i64 (((plE g.Edges x y : Nat) : Int) + 1) = true := inK_i64 (by omega) (by omega)
      rw [if_pos ⟨rfl, rfl⟩]
      simp only [edge_Front, hr, hf, hm, ho, edge_goes, decide_eq_true g1, Int.toNat_natCast, decide_eq_true c1, cl, ce, ii, cut, go, Option.bind_some, Bool.not_true, cond_false, cond_true, ol, Graph.go, goT, Bool.false_eq_true, if_false]
theorem Back_eq {g : Graph} {I M O s : Nat} (h : RGr g I M O) (hg : g.Ok s) (hs : 0 < s) (hK : 3 * s + 1 ≤ 1000000) (a b : Int) : edge_Back g a b = some (g.goR (I + M + O) a b true) := by
  have i2 := h.i2; have m2 := h.m2; have o2 := h.o2
  have hr := graph_Right_eq (n := s) (by omega) hg
  rw [h.right] at hr
  have el := hg.e
  have hf := find_eq h.s (by omega) a b
  have hm := edge_mid_eq (rsz h.right) a
  unfold Graph.goR
  simp only [if_true]
  cases hh : hasE g.Edges a b with
  | false =>
    rw [hh] at hf
    rw [if_neg (fun c => by cases c.1)]
    simp only [edge_Back, hr, hf, Option.bind_some, Bool.not_true, cond_false, Bool.not_false, cond_true]
  | true =>
    rw [hh] at hf
    cases hmid : g.shape.isMid a with
    | false =>
      rw [hmid] at hm
      rw [if_neg (fun c => by cases c.2)]
      simp only [edge_Back, hr, hf, hm, Option.bind_some, Bool.not_true, cond_false, Bool.not_false, cond_true]
    | true =>
      rw [hmid] at hm
      obtain ⟨x, y, q, rfl, rfl, hT, q1, q2, q3, q4⟩ := has_T h hg hh
      obtain ⟨c1, c2, c3⟩ := cut_eq h hg hT
      have go := goesB h hg hs hK hT (x0 := g.Gone) (idx := ((plE g.Edges x y : Nat) : Int)) (by rw [Int.toNat_natCast]; exact c2)
      have ho := graph_In_eq (n := s) (by omega) hg (x : Int)
      rw [if_pos h.right] at ho
      have ol := (nth_map_eq (ins_from h x)).1
      have g1 : (0 : Int) ≤ ((plE g.Edges x y : Nat) : Int) := by omega
      have cl : slices_Clone_int_int g.Gone = some g.Gone := by
        have := hg.g
        unfold slices_Clone_int_int
        rw [decide_eq_true (by omega)]; rfl
      have ce : slices_Clone_api_Edge_api_Edge_2 g.Edges = some g.Edges := by
        unfold slices_Clone_api_Edge_api_Edge_2
        rw [decide_eq_true (show 0 < g.Edges.length by omega), decide_eq_true (show 0 + g.Edges.length ≤ 2147483648 by omega)]; rfl
      have cut : edges_cut g.Edges ((plE g.Edges x y : Nat) : Int) (((plE g.Edges x y : Nat) : Int) + 1) = some (edgesOf (I + M + O) (delT g.T x y)) := by
        unfold edges_cut
        have e1 : (((plE g.Edges x y : Nat) : Int) + 1).toNat = plE g.Edges x y + 1 := by omega
        rw [decide_eq_true g1, decide_eq_true (show ((plE g.Edges x y : Nat) : Int) < ((plE g.Edges x y : Nat) : Int) + 1 by omega), decide_eq_true (show ((plE g.Edges x y : Nat) : Int) + 1 ≤ (g.Edges.length : Int) by omega), e1, Int.toNat_natCast, c3]
        rfl
      have ii : inK .i64 (((plE g.Edges x y : Nat) : Int) + 1) = true := inK_i64 (by omega) (by omega)
      rw [if_pos ⟨rfl, rfl⟩]
      simp only [edge_Back, hr, hf, hm, ho, edge_goes_2, decide_eq_true g1, Int.toNat_natCast, decide_eq_true c1, cl, ce, ii, cut, go, Option.bind_some, Bool.not_true, cond_false, cond_true, ol, Graph.go, goT, if_true]
theorem adF_not {g : Graph} {I M O : Nat} (h : RGr g I M O) {n a b : Nat} : ∀ x, x ∈ adF n g.T a b → ¬ (x.1 = a ∧ x.2.1 = b) := fun x hx c => by
  obtain ⟨k, hk, rfl⟩ := List.mem_map.1 hx
  obtain ⟨w, hw⟩ := Option.isSome_iff_exists.1 (mem_rowN.1 hk).2
  have := T_lt h hw
  have := c.2
  dsimp only at this
  omega
theorem adB_not {g : Graph} {I M O : Nat} (h : RGr g I M O) {n a b : Nat} : ∀ x, x ∈ adB n g.T a b → ¬ (x.1 = a ∧ x.2.1 = b) := fun x hx c => by
  obtain ⟨k, hk, rfl⟩ := List.mem_map.1 hx
  obtain ⟨w, hw⟩ := Option.isSome_iff_exists.1 (mem_colN.1 hk).2
  have := T_lt h hw
  have := c.1
  dsimp only at this
  omega
theorem goT_sz {s n : Nat} {t : Tab} (h : szT s t) (hs : 0 < s) (a b : Nat) (back : Bool) : szT (3 * s + 1) (goT n t a b back) := by
  unfold goT
  cases back with
  | true =>
    have := accT_sz (delT_sz h a b) hs (adB_ap n t a b) (adB_sz h hs a b) (adB n t a b).length (Nat.le_refl _)
    rw [List.take_length] at this
    rw [if_pos rfl, show 3 * s + 1 = s + (s + s) + 1 by omega]; exact this
  | false =>
    have := accT_sz (delT_sz h a b) hs (adF_ap n t a b) (adF_sz h hs a b) (adF n t a b).length (Nat.le_refl _)
    rw [List.take_length] at this
    rw [if_neg (by decide), show 3 * s + 1 = s + (s + s) + 1 by omega]; exact this
end Go.Ab.M
end

section
/-
  PLAIN LAW: WHEN AN EDGE HAS GONE, THE GRAPH IS RIGHT, AND ITS SUMS OVER WAYS ARE WHAT THEY WERE.
-/
namespace Go.Ab.M
open Go.Proofs Go.Ab
set_option linter.unusedVariables false
set_option linter.unusedSimpArgs false

theorem accT_in : ∀ {l : List Ad}, ApL l → ∀ (t : Tab) {x : Ad}, x ∈ l → accT t l x.1 x.2.1 = some ((t x.1 x.2.1).getD 0 + x.2.2)
  | [], _, t, x, h => by cases h
  | y :: l, ha, t, x, h => by
    obtain ⟨h1, h2⟩ := List.pairwise_cons.1 ha
    show accT (adT t y) l x.1 x.2.1 = _
    rcases List.mem_cons.1 h with rfl | h
    · rw [accT_off l _ fun z hz => h1 z hz]
      unfold adT updT
      rw [if_pos ⟨rfl, rfl⟩]
    · rw [accT_in h2 _ h]
      have := h1 x h
      have e : adT t y x.1 x.2.1 = t x.1 x.2.1 := by
        unfold adT updT
        exact if_neg (fun c => this ⟨c.1.symm, c.2.symm⟩)
      rw [e]
theorem accT_some : ∀ (l : List Ad) (t : Tab) {i k : Nat}, (t i k).isSome = true → (accT t l i k).isSome = true
  | [], t, i, k, h => h
  | x :: l, t, i, k, h => accT_some l (adT t x) (by
    unfold adT updT
    split
    · rfl
    · exact h)
section
variable {g : Graph} {I M O s : Nat} (h : RGr g I M O) {a b : Nat} {c0 : _root_.Rat} (hab : g.T a b = some c0) {back : Bool}
include h hab
theorem goT_ab : goT (I + M + O) g.T a b back a b = none := by
  have _ := hab
  unfold goT
  rw [accT_off _ _ fun x hx c => ?_]
  · unfold delT; rw [if_pos ⟨rfl, rfl⟩]
  · cases back with
    | true => exact adB_not h x (by simpa using hx) ⟨c.1.symm, c.2.symm⟩
    | false => exact adF_not h x (by simpa using hx) ⟨c.1.symm, c.2.symm⟩
/-- in front: which edges there are then, and their labels -/
theorem goF_at (i k : Nat) : goT (I + M + O) g.T a b false i k = if i = a ∧ k = b then none else if i = a ∧ (g.T b k).isSome = true then some ((g.T a k).getD 0 + c0 * (g.T b k).getD 0) else g.T i k := by
  unfold goT
  rw [if_neg (by decide)]
  by_cases c1 : i = a ∧ k = b
  · have := goT_ab h hab (back := false)
    unfold goT at this
    rw [if_neg (by decide)] at this
    rw [if_pos c1, c1.1, c1.2, this]
  · rw [if_neg c1]
    by_cases c2 : i = a ∧ (g.T b k).isSome = true
    · rw [if_pos c2]
      obtain ⟨w, hw⟩ := Option.isSome_iff_exists.1 c2.2
      have hk := T_lt h hw
      have hm : (a, k, (g.T a b).getD 0 * (g.T b k).getD 0) ∈ adF (I + M + O) g.T a b := List.mem_map_of_mem (f := fun k => (a, k, (g.T a b).getD 0 * (g.T b k).getD 0)) (mem_rowN.2 ⟨by omega, c2.2⟩)
      have := accT_in (adF_ap (I + M + O) g.T a b) (delT g.T a b) hm
      dsimp only at this
      rw [c2.1, this, hab]
      unfold delT
      rw [if_neg (fun c => by omega)]
      rfl
    · rw [if_neg c2, accT_off _ _ fun x hx c => c2 ?_]
      · unfold delT; rw [if_neg c1]
      · obtain ⟨k', hk', rfl⟩ := List.mem_map.1 hx
        have c1' : i = a := c.1
        have c2' : k = k' := c.2
        exact ⟨c1', by rw [c2']; exact (mem_rowN.1 hk').2⟩
/-- back -/
theorem goB_at (i k : Nat) : goT (I + M + O) g.T a b true i k = if i = a ∧ k = b then none else if k = b ∧ (g.T i a).isSome = true then some ((g.T i b).getD 0 + c0 * (g.T i a).getD 0) else g.T i k := by
  unfold goT
  rw [if_pos rfl]
  by_cases c1 : i = a ∧ k = b
  · have := goT_ab h hab (back := true)
    unfold goT at this
    rw [if_pos rfl] at this
    rw [if_pos c1, c1.1, c1.2, this]
  · rw [if_neg c1]
    by_cases c2 : k = b ∧ (g.T i a).isSome = true
    · rw [if_pos c2]
      obtain ⟨w, hw⟩ := Option.isSome_iff_exists.1 c2.2
      have hk := T_lt h hw
      have hm : (i, b, (g.T a b).getD 0 * (g.T i a).getD 0) ∈ adB (I + M + O) g.T a b := List.mem_map_of_mem (f := fun i => (i, b, (g.T a b).getD 0 * (g.T i a).getD 0)) (mem_colN.2 ⟨by omega, c2.2⟩)
      have := accT_in (adB_ap (I + M + O) g.T a b) (delT g.T a b) hm
      dsimp only at this
      rw [c2.1, this, hab]
      unfold delT
      rw [if_neg (fun c => by omega)]
      rfl
    · rw [if_neg c2, accT_off _ _ fun x hx c => c2 ?_]
      · unfold delT; rw [if_neg c1]
      · obtain ⟨k', hk', rfl⟩ := List.mem_map.1 hx
        have c1' : i = k' := c.1
        have c2' : k = b := c.2
        exact ⟨c2', by rw [c1']; exact (mem_colN.1 hk').2⟩
theorem goT_some {i k : Nat} (hk : (g.T i k).isSome = true) (hne : ¬ (i = a ∧ k = b)) : (goT (I + M + O) g.T a b back i k).isSome = true := by
  have _ := h
  have _ := hab
  unfold goT
  refine accT_some _ _ ?_
  unfold delT
  rw [if_neg hne]; exact hk
theorem goT_lt {i k : Nat} {q : _root_.Rat} (hq : goT (I + M + O) g.T a b back i k = some q) : (∃ p, g.T i k = some p) ∨ (∃ m p r, g.T i m = some p ∧ g.T m k = some r) := by
  cases back with
  | false =>
    rw [goF_at h hab] at hq
    split at hq
    · cases hq
    · split at hq
      · rename_i c1 c2
        obtain ⟨w, hw⟩ := Option.isSome_iff_exists.1 c2.2
        exact .inr ⟨b, c0, w, by rw [c2.1]; exact hab, hw⟩
      · exact .inl ⟨q, hq⟩
  | true =>
    rw [goB_at h hab] at hq
    split at hq
    · cases hq
    · split at hq
      · rename_i c1 c2
        obtain ⟨w, hw⟩ := Option.isSome_iff_exists.1 c2.2
        exact .inr ⟨a, w, c0, hw, by rw [c2.1]; exact hab⟩
      · exact .inl ⟨q, hq⟩
theorem goT_lt' {i k : Nat} {q : _root_.Rat} (hq : goT (I + M + O) g.T a b back i k = some q) : i < I + M ∧ I ≤ k ∧ k < I + M + O ∧ i < k := by
  rcases goT_lt h hab hq with ⟨p, hp⟩ | ⟨m, p, r, h1, h2⟩
  · exact T_lt h hp
  · have a1 := T_lt h h1
    have a2 := T_lt h h2
    omega
theorem go_rgr : RGr (g.go (I + M + O) a b back) I M O := by
  refine ⟨h.i, h.m, h.o, h.i1, h.i2, h.m2, h.o1, h.o2, fun w hw => ?_, edgesOf_sorted _ _, fun x hx => ?_, h.gs⟩
  · obtain ⟨i, k, q, hi, hk, hq, rfl⟩ := mem_edgesOf.1 hw
    have := goT_lt' h hab hq
    refine ⟨?_, ?_, ?_, ?_, ?_, isR_ofR q⟩ <;> simp only <;> omega
  · refine ⟨(h.gn x hx).1, (h.gn x hx).2.1, fun w hw => ?_⟩
    obtain ⟨i, k, q, hi, hk, hq, rfl⟩ := mem_edgesOf.1 hw
    rcases goT_lt h hab hq with ⟨p, hp⟩ | ⟨m, p, r, h1, h2⟩
    · exact T_gone h hx hp
    · exact ⟨(T_gone h hx h1).1, (T_gone h hx h2).2⟩
theorem go_T : (g.go (I + M + O) a b back).T = goT (I + M + O) g.T a b back := by
  have hr := go_rgr h hab (back := back)
  funext i k
  cases hq : goT (I + M + O) g.T a b back i k with
  | some q =>
    have hlt := goT_lt' h hab hq
    have hw : Edge.mk (i : Int) (k : Int) (ofR q) ∈ (g.go (I + M + O) a b back).Edges := mem_edgesOf.2 ⟨i, k, q, by omega, by omega, hq, rfl⟩
    have := T_mem hr hw
    simp only [Int.toNat_natCast, qR_ofR] at this
    exact this
  | none =>
    refine tabL_none fun e he hik => ?_
    obtain ⟨w, hw, rfl⟩ := List.mem_map.1 he
    obtain ⟨i', k', q, _, _, hq', rfl⟩ := mem_edgesOf.1 hw
    simp only [Edge.pe, Int.toNat_natCast] at hik
    rw [hik.1, hik.2, hq] at hq'
    cases hq'
theorem go_ok (hg : g.Ok s) (hs : 0 < s) (hn : I + M + O ≤ 300) : (g.go (I + M + O) a b back).Ok (3 * s + 1) :=
  have _ := hab
  ⟨fun i hi => edgesOf_sz (goT_sz (T_sz h hg hs) hs a b back) _ (nth_mem hi), Nat.le_trans (edgesOf_len _ _) (Nat.le_trans (Nat.mul_le_mul hn hn) (by decide)), hg.g⟩
/-- sums over ways: in front nothing changes, for any vertex -/
theorem bk_goF {to : Nat} (ht : to ≠ b) : ∀ d x, I + M + O ≤ d + x → bk to (g.go (I + M + O) a b false).E x = bk to g.E x := by
  have hr := go_rgr h hab (back := false)
  have hT := go_T h hab (back := false)
  have hab' := T_lt h hab
  have hbb : g.T b b = none := by
    cases hq : g.T b b with
    | none => rfl
    | some q => have := T_lt h hq; omega
  intro d
  induction d with
  | zero =>
    intro x hx
    rw [bk_row hr, bk_row h]
    congr 1
    refine sumN_congr fun j hj => ?_
    rw [hT]
    cases hq : goT (I + M + O) g.T a b false x j with
    | none =>
      cases hq2 : g.T x j with
      | none => show (0 : _root_.Rat) * _ = 0 * _; grind
      | some q => have := T_lt h hq2; omega
    | some q => have := goT_lt' h hab hq; omega
  | succ d ih =>
    intro x hx
    rw [bk_row hr, bk_row h]
    congr 1
    have h2 : ∀ j, (goT (I + M + O) g.T a b false x j).getD 0 * bk to (g.go (I + M + O) a b false).E j = (goT (I + M + O) g.T a b false x j).getD 0 * bk to g.E j := fun j => by
      cases hq : goT (I + M + O) g.T a b false x j with
      | none => show (0 : _root_.Rat) * _ = 0 * _; grind
      | some q =>
        have h3 := goT_lt' h hab hq
        rw [ih j (by omega)]
    by_cases hxa : x = a
    · subst hxa
      have e1 : sumN (I + M + O) (fun j => ((g.go (I + M + O) x b false).T x j).getD 0 * bk to (g.go (I + M + O) x b false).E j) = sumN (I + M + O) fun j => ((g.T x j).getD 0 * bk to g.E j + c0 * ((g.T b j).getD 0 * bk to g.E j)) + (-1) * (if j = b then c0 * bk to g.E b else 0) := by
        refine sumN_congr fun j hj => ?_
        rw [hT, h2, goF_at h hab]
        by_cases hj : j = b
        · subst hj
          rw [if_pos ⟨rfl, rfl⟩, if_pos rfl, hbb, hab]
          show (0 : _root_.Rat) * _ = c0 * _ + c0 * (0 * _) + _
          grind
        · rw [if_neg (fun c => hj c.2), if_neg hj]
          by_cases c : (g.T b j).isSome = true
          · rw [if_pos ⟨rfl, c⟩]
            show ((g.T x j).getD 0 + c0 * (g.T b j).getD 0) * _ = _
            grind
          · rw [if_neg (fun d => c d.2)]
            have : g.T b j = none := by simpa using c
            rw [this]
            show _ = _ + c0 * (0 * _) + _
            grind
      rw [e1, sumN_lin, sumN_lin, sumN_one, if_pos (show b < I + M + O by omega)]
      have e2 := bk_row h to b
      rw [if_neg (Ne.symm ht)] at e2
      generalize sumN (I + M + O) (fun k => (g.T b k).getD 0 * bk to g.E k) = z at e2 ⊢
      rw [e2]
      grind
    · refine sumN_congr fun j hj => ?_
      rw [hT, h2, goF_at h hab, if_neg (fun c => hxa c.1), if_neg (fun c => hxa c.1)]
/-- back: the vertex itself loses what went by the edge; no other one does -/
theorem bk_goB {to : Nat} (ht : to ≠ a) : ∀ d x, I + M + O ≤ d + x → bk to (g.go (I + M + O) a b true).E x = if x = a then bk to g.E a - c0 * bk to g.E b else bk to g.E x := by
  have hr := go_rgr h hab (back := true)
  have hT := go_T h hab (back := true)
  have hab' := T_lt h hab
  have haa : g.T a a = none := by
    cases hq : g.T a a with
    | none => rfl
    | some q => have := T_lt h hq; omega
  intro d
  induction d with
  | zero =>
    intro x hx
    rw [if_neg (by omega), bk_row hr, bk_row h]
    congr 1
    refine sumN_congr fun j hj => ?_
    rw [hT]
    cases hq : goT (I + M + O) g.T a b true x j with
    | none =>
      cases hq2 : g.T x j with
      | none => show (0 : _root_.Rat) * _ = 0 * _; grind
      | some q => have := T_lt h hq2; omega
    | some q => have := goT_lt' h hab hq; omega
  | succ d ih =>
    intro x hx
    have h2 : ∀ j, (goT (I + M + O) g.T a b true x j).getD 0 * bk to (g.go (I + M + O) a b true).E j = (goT (I + M + O) g.T a b true x j).getD 0 * (if j = a then bk to g.E a - c0 * bk to g.E b else bk to g.E j) := fun j => by
      cases hq : goT (I + M + O) g.T a b true x j with
      | none => show (0 : _root_.Rat) * _ = 0 * _; grind
      | some q =>
        have h3 := goT_lt' h hab hq
        rw [ih j (by omega)]
    by_cases hxa : x = a
    · subst hxa
      rw [if_pos rfl, bk_row hr, bk_row h to x]
      have e1 : sumN (I + M + O) (fun j => ((g.go (I + M + O) x b true).T x j).getD 0 * bk to (g.go (I + M + O) x b true).E j) = sumN (I + M + O) fun j => (g.T x j).getD 0 * bk to g.E j + (-1) * (if j = b then c0 * bk to g.E b else 0) := by
        refine sumN_congr fun j hj => ?_
        rw [hT, h2, goB_at h hab]
        by_cases hj : j = b
        · subst hj
          rw [if_pos ⟨rfl, rfl⟩, if_pos rfl, hab]
          show (0 : _root_.Rat) * _ = c0 * _ + _
          grind
        · rw [if_neg (fun c => hj c.2), if_neg hj, if_neg (fun c => hj c.1)]
          by_cases hjx : j = x
          · subst hjx
            rw [haa]
            show (0 : _root_.Rat) * _ = 0 * _ + _
            grind
          · rw [if_neg hjx]; grind
      rw [e1, sumN_lin, sumN_one, if_pos (show b < I + M + O by omega)]
      grind
    · rw [if_neg hxa, bk_row hr, bk_row h to x]
      congr 1
      have e1 : sumN (I + M + O) (fun j => ((g.go (I + M + O) a b true).T x j).getD 0 * bk to (g.go (I + M + O) a b true).E j) = sumN (I + M + O) fun j => ((g.T x j).getD 0 * bk to g.E j + (-1) * (if j = a then (g.T x a).getD 0 * (c0 * bk to g.E b) else 0)) + 1 * (if j = b then c0 * (g.T x a).getD 0 * bk to g.E b else 0) := by
        refine sumN_congr fun j hj => ?_
        rw [hT, h2, goB_at h hab, if_neg (fun c => hxa c.1)]
        by_cases hj : j = b
        · subst hj
          rw [if_pos rfl, if_neg (show ¬ j = a by omega), if_neg (show ¬ j = a by omega)]
          by_cases c : (g.T x a).isSome = true
          · rw [if_pos ⟨rfl, c⟩]
            show ((g.T x j).getD 0 + c0 * (g.T x a).getD 0) * _ = _
            grind
          · rw [if_neg (fun d => c d.2)]
            have : g.T x a = none := by simpa using c
            rw [this]
            show _ = _ + 1 * (c0 * 0 * _)
            grind
        · rw [if_neg (fun c => hj c.1), if_neg hj]
          by_cases hja : j = a
          · subst hja
            rw [if_pos rfl, if_pos rfl]; grind
          · rw [if_neg hja, if_neg hja]; grind
      rw [e1, sumN_lin, sumN_lin, sumN_one, sumN_one, if_pos (show a < I + M + O by omega), if_pos (show b < I + M + O by omega)]
      grind
theorem go_entry (hm : if back = true then I ≤ a else b < I + M) (k : Nat) : entry I M (g.go (I + M + O) a b back).E k = entry I M g.E k := by
  have hab' := T_lt h hab
  have i1 := h.i1
  have := Nat.mod_lt k (show 0 < I by omega)
  unfold entry
  generalize k / I = d
  cases back with
  | false =>
    have hm : b < I + M := hm
    rw [bk_goF h hab (by omega) (I + M + O) _ (by omega)]
  | true =>
    have hm : I ≤ a := hm
    rw [bk_goB h hab (by omega) (I + M + O) _ (by omega), if_neg (by omega)]
end
end Go.Ab.M
end

section
/-
  PLAIN LAW: AN EDGE THAT GOES BY A STEP; counting.
-/
namespace Go.Ab.M
open Go.Proofs Go.Ab
set_option linter.unusedVariables false
set_option linter.unusedSimpArgs false

theorem gone_eq {g : Graph} {I M O s : Nat} (h : RGr g I M O) (hg : g.Ok s) (hs : 0 < s) (hK : 3 * s + 1 ≤ 1000000) (a b : Int) (back : Bool) : law19_gone g (Step.mk (if back = true then 2 else 1) a b) = some (g.goR (I + M + O) a b back) := by
  cases back with
  | true =>
    have := Back_eq h hg hs hK a b
    have z : (((2 : Int)) == 2) = true := rfl
    simp only [law19_gone, if_true, z, cond_true, this, Option.bind_some]
  | false =>
    have := Front_eq h hg hs hK a b
    have z : (((1 : Int)) == 2) = false := rfl
    simp only [law19_gone, Bool.false_eq_true, if_false, z, cond_false, this, Option.bind_some]
def cntE (l : List Edge) (a b : Int) : Nat := (l.filter fun e => e.From == a && e.To == b).length
theorem cntE_is : ∀ {l : List Edge}, l.Pairwise edgeLt → ∀ (a b : Int), cntE l a b = if hasE l a b = true then 1 else 0
  | [], _, a, b => rfl
  | e :: l, h, a, b => by
    obtain ⟨hh, ht⟩ := List.pairwise_cons.1 h
    have ih := cntE_is ht a b
    by_cases c : (e.From == a && e.To == b) = true
    · have e1 : cntE (e :: l) a b = cntE l a b + 1 := by unfold cntE; rw [List.filter_cons_of_pos (p := fun e : Edge => e.From == a && e.To == b) c]; rfl
      have e2 : hasE l a b = false := by
        cases q : hasE l a b with
        | false => rfl
        | true =>
          obtain ⟨x, hx, x1, x2⟩ := hasE_iff.1 q
          rw [Bool.and_eq_true, beq_iff_eq, beq_iff_eq] at c
          have := hh x hx
          unfold edgeLt at this
          omega
      have e3 : hasE (e :: l) a b = true := by unfold hasE; rw [List.any_cons, c]; rfl
      rw [e1, ih, e2, e3]; rfl
    · have e1 : cntE (e :: l) a b = cntE l a b := by unfold cntE; rw [List.filter_cons_of_neg (p := fun e : Edge => e.From == a && e.To == b) c]
      have e3 : hasE (e :: l) a b = hasE l a b := by
        unfold hasE
        rw [List.any_cons, Bool.eq_false_iff.2 c, Bool.false_or]
      rw [e1, ih, e3]
theorem cnt_step {l : List Edge} {i : Nat} (hi : i < l.length) (a b : Int) : cntE (l.take (i + 1)) a b = if ((nth l i).From == a && (nth l i).To == b) = true then cntE (l.take i) a b + 1 else cntE (l.take i) a b := by
  unfold cntE
  rw [filter_step hi]
  split
  · rw [List.length_append]; rfl
  · rfl
theorem cnt_le (l : List Edge) (a b : Int) : cntE l a b ≤ l.length := List.length_filter_le _ _
theorem awake19 : law19_awake = some true := by kernel_rfl
end Go.Ab.M
end

section
/-
  PLAIN LAW: THE PATHS STAY WHAT THEY WERE, whichever edge goes; it isn't there then, and all others are.
-/
namespace Go.Ab.M
open Go.Proofs Go.Ab
set_option linter.unusedVariables false
set_option linter.unusedSimpArgs false

theorem cntA {p : Int} {x0 : Bool} {g : Graph} {x5 : List Edge} {x6 : Graph × Int × Int} (hl : x6.1.Edges.length ≤ 100000) {i : Nat} (hi : i < g.Edges.length) : law19_EdgeKeeps_l_2 p x0 g x5 x6 i 0 0 = some (cntE x6.1.Edges (nth g.Edges i).From (nth g.Edges i).To) := by
  unfold law19_EdgeKeeps_l_2
  have := loop_run (round := fun σ : Nat × Nat => law19_EdgeKeeps_l_2_rd p x0 g x5 x6 i σ.1 σ.2) (fun j => (cntE (x6.1.Edges.take j) (nth g.Edges i).From (nth g.Edges i).To, j)) x6.1.Edges.length (r := cntE (x6.1.Edges.take x6.1.Edges.length) (nth g.Edges i).From (nth g.Edges i).To) (fun j hj => ?_) ?_ (by simp only [FU]; omega)
  · rw [List.take_length] at this; exact this
  · have g1 : ((j : Nat) : Int) < (x6.1.Edges.length : Int) := by omega
    have ii : inK .i64 (((j : Nat) : Int) + 1) = true := inK_i64 (by omega) (by omega)
    have cl := cnt_le (x6.1.Edges.take j) (nth g.Edges i).From (nth g.Edges i).To
    rw [List.length_take] at cl
    have ic : inK .i64 (((cntE (x6.1.Edges.take j) (nth g.Edges i).From (nth g.Edges i).To : Nat) : Int) + 1) = true := inK_i64 (by omega) (by omega)
    show law19_EdgeKeeps_l_2_rd p x0 g x5 x6 i (cntE (x6.1.Edges.take j) (nth g.Edges i).From (nth g.Edges i).To) j = some (.inl (cntE (x6.1.Edges.take (j + 1)) (nth g.Edges i).From (nth g.Edges i).To, j + 1))
    rw [cnt_step hj]
    rcases Bool.eq_false_or_eq_true ((nth x6.1.Edges j).From == (nth g.Edges i).From) with q | q <;> rcases Bool.eq_false_or_eq_true ((nth x6.1.Edges j).To == (nth g.Edges i).To) with r | r <;>
      simp only [law19_EdgeKeeps_l_2_rd, decide_eq_true g1, decide_eq_true hj, decide_eq_true hi, q, r, ii, ic, cond_true, cond_false, Bool.and_true, Bool.and_false, Bool.true_and, Bool.false_eq_true, if_true, if_false]
  · simp only [law19_EdgeKeeps_l_2_rd, Int.lt_irrefl, decide_false, cond_false]
section
variable {g : Graph} {I M O : Nat} (h : RGr g I M O) (ok : g.Ok 1) (hn : I + M + O ≤ 300) {u v : Nat} {q : _root_.Rat} (hT : g.T u v = some q)
include h ok hn hT
theorem keepsA {p : Int} {x0 : Bool} {x5 : List Edge} {back : Bool} {n e : Int} (eu : (nth g.Edges ((p % ((g.Edges.length : Nat) : Int)).toNat)).From = (u : Int)) (ev : (nth g.Edges ((p % ((g.Edges.length : Nat) : Int)).toNat)).To = (v : Int)) :
    law19_EdgeKeeps_l p x0 g x5 (g.go (I + M + O) u v back, n, e) 0 = some (.inr ()) := by
  have el := ok.e
  have hk := go_ok h hT (back := back) ok (by decide) hn
  have hlt := T_lt h hT
  unfold law19_EdgeKeeps_l
  refine loop_run (round := fun σ => law19_EdgeKeeps_l_rd p x0 g x5 (g.go (I + M + O) u v back, n, e) σ) (fun i => i) g.Edges.length (fun i hi => ?_) ?_ (by simp only [FU]; omega)
  · have g1 : ((i : Nat) : Int) < (g.Edges.length : Int) := by omega
    have ii : inK .i64 (((i : Nat) : Int) + 1) = true := inK_i64 (by omega) (by omega)
    have c := cntA (p := p) (x0 := x0) (x5 := x5) (x6 := (g.go (I + M + O) u v back, n, e)) (g := g) hk.e hi
    obtain ⟨a, b, w, ea, eb, hw, q1, q2, q3, q4⟩ := has_T h ok (hasE_iff.2 ⟨_, nth_mem hi, rfl, rfl⟩)
    have hs : cntE (g.go (I + M + O) u v back).Edges (nth g.Edges i).From (nth g.Edges i).To = if (goT (I + M + O) g.T u v back a b).isSome = true then 1 else 0 := by
      have eE : (g.go (I + M + O) u v back).Edges = edgesOf (I + M + O) (goT (I + M + O) g.T u v back) := rfl
      rw [ea, eb, eE, cntE_is (edgesOf_sorted _ _), has_edgesOf (by omega) q3]
    have c : law19_EdgeKeeps_l_2 p x0 g x5 (g.go (I + M + O) u v back, n, e) i 0 0 = some (if (goT (I + M + O) g.T u v back a b).isSome = true then 1 else 0) := by rw [← hs]; exact c
    by_cases d : a = u ∧ b = v
    · rw [d.1, d.2, goT_ab h hT] at c
      have f1 : ((nth g.Edges i).From == (nth g.Edges ((p % ((g.Edges.length : Nat) : Int)).toNat)).From) = true := by rw [beq_iff_eq]; omega
      have f2 : ((nth g.Edges i).To == (nth g.Edges ((p % ((g.Edges.length : Nat) : Int)).toNat)).To) = true := by rw [beq_iff_eq]; omega
      have z1 : (((0 : Nat) : Int) == 0) = true := rfl
      have z2 : decide (((0 : Nat) : Int) > 1) = false := rfl
      simp only [Option.isSome_none, Bool.false_eq_true, if_false] at c
      simp only [law19_EdgeKeeps_l_rd, decide_eq_true g1, decide_eq_true hi, c, f1, f2, z1, z2, ii, Option.bind_some, cond_true, cond_false, BEq.rfl, Bool.not_true]
    · have hsm := goT_some h hT (back := back) (i := a) (k := b) (by rw [hw]; rfl) d
      rw [hsm] at c
      have z1 : (((1 : Nat) : Int) == 0) = false := rfl
      have z2 : decide (((1 : Nat) : Int) > 1) = false := rfl
      simp only [if_true] at c
      by_cases d1 : a = u
      · have f1 : ((nth g.Edges i).From == (nth g.Edges ((p % ((g.Edges.length : Nat) : Int)).toNat)).From) = true := by rw [beq_iff_eq]; omega
        have f2 : ((nth g.Edges i).To == (nth g.Edges ((p % ((g.Edges.length : Nat) : Int)).toNat)).To) = false := by rw [beq_eq_false_iff_ne]; omega
        simp only [law19_EdgeKeeps_l_rd, decide_eq_true g1, decide_eq_true hi, c, f1, f2, z1, z2, ii, Option.bind_some, cond_true, cond_false, BEq.rfl, Bool.not_true]
      · have f1 : ((nth g.Edges i).From == (nth g.Edges ((p % ((g.Edges.length : Nat) : Int)).toNat)).From) = false := by rw [beq_eq_false_iff_ne]; omega
        simp only [law19_EdgeKeeps_l_rd, decide_eq_true g1, decide_eq_true hi, c, f1, z1, z2, ii, Option.bind_some, cond_true, cond_false, BEq.rfl, Bool.not_true]
  · simp only [law19_EdgeKeeps_l_rd, Int.lt_irrefl, decide_false, cond_false]
theorem keepsB {p : Int} {x0 : Bool} {x5 : List Edge} {back : Bool} {n e : Int} (eu : (nth g.Edges ((p % ((g.Edges.length : Nat) : Int)).toNat)).From = (u : Int)) (ev : (nth g.Edges ((p % ((g.Edges.length : Nat) : Int)).toNat)).To = (v : Int)) :
    law19_EdgeKeeps_l_3 p x0 g x5 (g.go (I + M + O) u v back, n, e) 0 = some (.inr ()) := keepsA (x0 := x0) (x5 := x5) h ok hn hT eu ev
end
theorem EdgeKeeps_true (x y z : Int) (l : List Link) (p : Int) (back : Bool) (hx : inRange .u8 x) (hy : inRange .u8 y) (hz : inRange .u8 z) (hl : l.length ≤ maxLen ∧ ∀ z, z ∈ l → inRange .u8 z.From ∧ inRange .u8 z.To ∧ inRange .i8 z.N ∧ inRange .u8 z.D_) (hp : inRange .u8 p) : law19_EdgeKeeps x y z l p back = some true := by
  by_cases h30 : ((l.length : Nat) : Int) > 30
  · simp only [law19_EdgeKeeps, awake19, Option.bind_some, Bool.cond_decide, if_pos h30]
  · obtain ⟨I, M, O, ⟨i1, i2, m2, o1, o2, -⟩, hm, h, ok, hE, hgone⟩ := made_all hx hy hz (links_ok hl.2) (by omega)
    generalize mkGraph I M O l = g at *
    by_cases h0 : g.Edges.length = 0
    · have : (((g.Edges.length : Nat) : Int) == 0) = true := by rw [h0]; rfl
      simp only [law19_EdgeKeeps, awake19, hm, this, Option.bind_some, Bool.cond_decide, if_neg h30, cond_true]
    · obtain ⟨p0, p1⟩ := hp
      have p1 : p ≤ 255 := p1
      have p0 : 0 ≤ p := p0
      have hpm := Int.emod_nonneg p (show ((g.Edges.length : Nat) : Int) ≠ 0 by omega)
      have hpl := Int.emod_lt_of_pos p (show (0 : Int) < ((g.Edges.length : Nat) : Int) by omega)
      have e0 : (((g.Edges.length : Nat) : Int) == 0) = false := by rw [beq_eq_false_iff_ne]; omega
      have hi : (p % ((g.Edges.length : Nat) : Int)).toNat < g.Edges.length := by omega
      have ip : inK .i64 p = true := inK_i64 (by omega) (by omega)
      have g1 : (0 : Int) < ((g.Edges.length : Nat) : Int) := by omega
      obtain ⟨u, v, q, eu, ev, hT, q1, q2, q3, q4⟩ := has_T h ok (hasE_iff.2 ⟨_, nth_mem hi, rfl, rfl⟩)
      have hh : hasE g.Edges (u : Int) (v : Int) = true := by rw [← eu, ← ev]; exact hasE_iff.2 ⟨_, nth_mem hi, rfl, rfl⟩
      have hr := fun bk => go_rgr h hT (back := bk)
      have hk := fun bk => go_ok h hT (back := bk) ok (by decide) (by omega)
      have mid1 := ref17_Mid_eq (rsz h.right) (v : Int)
      have mid2 := ref17_Mid_eq (rsz h.right) (u : Int)
      have gi := graph_In_eq (n := 1) (by decide) ok (u : Int)
      have go := graph_Out_eq (n := 1) (by decide) ok (v : Int)
      rw [if_pos h.right] at gi go
      have l1 := (nth_map_eq (ins_from h u)).1
      have l2 := (nth_map_eq (outs_to h v)).1
      have P2 := graph_Paths_eq h ok (by decide) (by decide) (by omega)
      have same := paths_same h ok (by decide) (by omega)
      have z9 : ((9 : Int) == 0) = false := rfl
      have zz : ∀ bk, ((((g.go (I + M + O) u v bk).Gone.length : Nat) : Int) == 0) = true := fun bk => by
        show (((g.Gone.length : Nat) : Int) == 0) = true
        rw [hgone]; rfl
      have gr : ∀ bk, graph_Right (g.go (I + M + O) u v bk) = some true := fun bk => by
        have := graph_Right_eq (n := 4) (by decide) (hk bk)
        rw [(hr bk).right] at this
        exact this
      have len : ∀ bk, (g.go (I + M + O) u v bk).Edges.length ≤ 121 := fun bk => Nat.le_trans (edgesOf_len _ _) (Nat.mul_le_mul (show I + M + O ≤ 11 by omega) (show I + M + O ≤ 11 by omega))
      have P1 : ∀ bk, (if bk = true then I ≤ u else v < I + M) → graph_Paths (g.go (I + M + O) u v bk) = some ⟨(O : Int), (I : Int), (List.range (O * I)).map (entry I M g.E)⟩ := fun bk hmid => by
        have := graph_Paths_eq (hr bk) (hk bk) (by decide) (by decide) (by have := len bk; omega)
        rw [tab_congr (g := entry I M g.E) fun k _ => go_entry h hT hmid k] at this
        exact this
      have isM : ∀ w : Nat, g.shape.isMid (w : Int) = true → I ≤ w ∧ w < I + M := fun w hw => by
        unfold Shape.isMid at hw
        rw [Bool.and_eq_true, decide_eq_true_eq, decide_eq_true_eq] at hw
        simp only [Graph.shape, h.i, h.m] at hw
        omega
      cases back with
      | true =>
        have G := gone_eq h ok (by decide) (by decide) (u : Int) (v : Int) true
        simp only [if_true] at G
        unfold Graph.goR at G
        simp only [if_true] at G
        cases hmid : g.shape.isMid (u : Int) with
        | false =>
          rw [hmid] at mid2 G
          rw [if_neg (fun c => by cases c.2)] at G
          simp only [law19_EdgeKeeps, awake19, hm, e0, ip, if_pos p0, if_pos g1, if_pos hpm, if_pos hi, eu, ev, mid1, mid2, gi, go, G, Option.bind_some, Bool.cond_decide, if_neg h30, cond_true, cond_false, if_t, BEq.rfl, Bool.not_false]
        | true =>
          rw [hmid] at mid2 G
          rw [if_pos ⟨hh, rfl⟩, Int.toNat_natCast, Int.toNat_natCast] at G
          have K := fun n e => keepsA (p := p) (x0 := true) (x5 := g.ins (u : Int)) (back := true) (n := n) (e := e) h ok (by omega) hT eu ev
          simp only [law19_EdgeKeeps, awake19, hm, e0, ip, if_pos p0, if_pos g1, if_pos hpm, if_pos hi, eu, ev, mid1, mid2, gi, go, G, K, caseS_inr, l1, gr, P1 true (isM u hmid).1, P2, same, zz, Option.bind_some, Bool.cond_decide, if_neg h30, cond_true, cond_false, if_t, BEq.rfl, Bool.not_true]
      | false =>
        have G := gone_eq h ok (by decide) (by decide) (u : Int) (v : Int) false
        simp only [Bool.false_eq_true, if_false] at G
        unfold Graph.goR at G
        simp only [Bool.false_eq_true, if_false] at G
        cases hmid : g.shape.isMid (v : Int) with
        | false =>
          rw [hmid] at mid1 G
          rw [if_neg (fun c => by cases c.2)] at G
          simp only [law19_EdgeKeeps, awake19, hm, e0, ip, if_pos p0, if_pos g1, if_pos hpm, if_pos hi, eu, ev, mid1, mid2, gi, go, G, Option.bind_some, Bool.cond_decide, if_neg h30, cond_true, cond_false, if_t, BEq.rfl, Bool.not_false]
        | true =>
          rw [hmid] at mid1 G
          rw [if_pos ⟨hh, rfl⟩, Int.toNat_natCast, Int.toNat_natCast] at G
          have K := fun n e => keepsB (p := p) (x0 := true) (x5 := g.outs (v : Int)) (back := false) (n := n) (e := e) h ok (by omega) hT eu ev
          simp only [law19_EdgeKeeps, awake19, hm, e0, ip, if_pos p0, if_pos g1, if_pos hpm, if_pos hi, eu, ev, mid1, mid2, gi, go, G, K, caseS_inr, l2, gr, P1 false (isM v hmid).2, P2, same, zz, Option.bind_some, Bool.cond_decide, if_neg h30, cond_true, cond_false, if_t, BEq.rfl, Bool.not_true]
end Go.Ab.M
end

section
/-
  ARGUMENTS AS TYPED DATA (printed by jot.py).
-/
namespace Go.Ab.M
open Go.Proofs Go.Proofs.YthikenallhbkpaaGreat
set_option linter.unusedVariables false
def tyLink : Ty Tryz.prog 96 := Ty.as (Ty.struct Tryz.underlying96 (Flds.cons (Ty.int .u8 Tryz.underlying5) rfl 1 (by kernel_rfl) (Flds.cons (Ty.int .u8 Tryz.underlying5) rfl 1 (by kernel_rfl) (Flds.cons (Ty.int .i8 Tryz.underlying94) rfl 1 (by kernel_rfl) (Flds.last (Ty.int .u8 Tryz.underlying5) rfl (by kernel_rfl))))))
  (fun y => Link.mk y.1 y.2.1 y.2.2.1 y.2.2.2) Link.D (fun y => inRange .u8 y.From ∧ inRange .u8 y.To ∧ inRange .i8 y.N ∧ inRange .u8 y.D_) (fun _ => 0) (fun _ => rfl) (fun _ h => h) (fun _ => Nat.zero_le _)
end Go.Ab.M
end

section
namespace Go.Proofs.YthikenallhbkpaaGreat.edgeKeeps
open Go.ChangeShapes Go.WideShapes Go.ChangeAt Go.RowKit Go.Ab Go.Ab.M
set_option linter.unusedVariables false

theorem own : ownKnob Tryz.prog.godebug = none := by kernel_rfl

theorem core (a : Int) (b : Int) (c : Int) (d : List Link) (e : Int) (f : Bool) (ha : inRange .u8 a) (hb : inRange .u8 b) (hc : inRange .u8 c) (hd : (d.length ≤ maxLen ∧ ∀ z, z ∈ d → tyLink.ok z)) (he : inRange .u8 e) : ACallsD Tryz.prog 5 0 [NI .u8 a, NI .u8 b, NI .u8 c, SL Link.D d, NI .u8 e, B f] [] yes [] := law19_EdgeKeeps_ok a b c d e f true (EdgeKeeps_true a b c d e f ha hb hc hd he)

set_option maxRecDepth 100000 in
theorem contract (H : Type) (enc : TypeId × Value → H) (W : World) (base : Nat) (args : Array Value) (ds gs : List (DataW H)) (before : List MemPlace)
    (hval : ∀ (j : Nat) t v, Tryz.f5.params[j]? = some t → args[j]? = some v → Value.okWide Tryz.prog W .any base t v)
    (hW : DataW.Whole enc Tryz.prog Tryz.f5.params.toList Rows.edgeKeepsSpec.vars false W args.toList ds gs before) :
    Calls Tryz.prog 5 args W fun e W' => ∃ v, e = .returned v ∧ Rows.edgeKeepsSpec.post enc Tryz.prog Tryz.f5 false true false false W args v W' :=
  law_contract (tb := 4) (ts := [5, 5, 5, 37, 5, 4]) (Tup.one (Ty.int .u8 Tryz.underlying5) (fun n => .v (.int .u8 n)) (fun _ => rfl) (one_int Tryz.underlying5) (Tup.one (Ty.int .u8 Tryz.underlying5) (fun n => .v (.int .u8 n)) (fun _ => rfl) (one_int Tryz.underlying5) (Tup.one (Ty.int .u8 Tryz.underlying5) (fun n => .v (.int .u8 n)) (fun _ => rfl) (one_int Tryz.underlying5) (Tup.one (Ty.slice Tryz.underlying37 tyLink (by decide +kernel) (fun _ => show 4 = _ by kernel_rfl)) (fun l => .sl (l.map Link.D)) (fun _ => rfl) (one_slice Tryz.underlying37) (Tup.one (Ty.int .u8 Tryz.underlying5) (fun n => .v (.int .u8 n)) (fun _ => rfl) (one_int Tryz.underlying5) (Tup.one (Ty.bool Tryz.underlying4) (fun n => .v (.bool n)) (fun _ => rfl) (one_bool Tryz.underlying4) Tup.nil)))))) (by kernel_rfl) (by kernel_rfl) (by kernel_rfl) (by kernel_rfl) Tryz.underlying4 rfl (fun ds h => by
      match ds, h with
      | [d0, d1, d2, d3, d4, d5], _ => rfl) hval hW
    fun y hy _ => core y.1 y.2.1 y.2.2.1 y.2.2.2.1 y.2.2.2.2.1 y.2.2.2.2.2.1 hy.1 hy.2.1 hy.2.2.1 hy.2.2.2.1 hy.2.2.2.2.1

set_option maxRecDepth 100000 in
theorem lifted (os : Os) (started : os.Started) (H : Type) (enc : TypeId × Value → H) :
    ReturnsInHanded {} Tryz.checked os 5 .any (Rows.edgeKeepsSpec.pre6 enc Tryz.prog Tryz.f5 Rows.edgeKeepsRow.domain false) (Rows.edgeKeepsSpec.post enc Tryz.prog Tryz.f5 false true false false) := by
  refine returnsInHanded_of_change (C := Tryz.checked) own started (by kernel_rfl) Tryz.func5
    (ChangeSpec.witness6 (enc := enc) (C := Tryz.checked) false ⟨#[], #[.int .u8 0, .int .u8 0, .int .u8 0, .slice none 0 0, .int .u8 0, .bool false], []⟩ 8 (by kernel_rfl) (by kernel_rfl) (by kernel_rfl) (by kernel_rfl)) ?_
  intro W base args ds gs before hval hW _ _
  exact contract H enc W base args ds gs before hval hW

theorem fact0 : (Rows.edgeKeepsRow.wf (OpenSpec.ofChange Rows.edgeKeepsSpec)) = true := by kernel_rfl
theorem fact1 : (laidOutB Tryz.prog) = true := by kernel_rfl
theorem fact2 : (mapsRowed Tryz.prog) = true := by kernel_rfl
theorem fact3 : (Tryz.f5.params.all (Tryz.prog.readableRec ·)) = true := by kernel_rfl
theorem fact4 : (namedTie Tryz.prog Rows.edgeKeepsRow.named Rows.edgeKeepsSpec.vars) = true := by kernel_rfl
theorem fact5 : ((Rows.edgeKeepsRow.stops == [])) = true := by kernel_rfl
theorem fact6 : ((Tryz.prog.stops == [])) = true := by kernel_rfl
theorem fact7 : ((Rows.edgeKeepsRow.knobs == [])) = true := by kernel_rfl
theorem fact8 : ((Tryz.prog.stopKnobs == [])) = true := by kernel_rfl
theorem fact9 : ((Rows.edgeKeepsRow.inPlace == Tryz.prog.inPlace 5)) = true := by kernel_rfl
theorem fact10 : ((Rows.edgeKeepsRow.unfollowed == Tryz.prog.unfollowed 5)) = true := by kernel_rfl
theorem fact11 : ((Rows.edgeKeepsRow.recurses == Tryz.prog.recurses 5)) = true := by kernel_rfl
theorem fact12 : ((Rows.edgeKeepsRow.named == Tryz.prog.varsNamed 5)) = true := by kernel_rfl
theorem fact13 : ((Rows.edgeKeepsRow.maps == (Tryz.f5.params.toList ++ Rows.edgeKeepsSpec.plain.varTypes Tryz.prog).any (Tryz.prog.mapsRec ·))) = true := by kernel_rfl
theorem fact14 : ((Rows.edgeKeepsRow.ifaces == (Tryz.f5.params.toList ++ Rows.edgeKeepsSpec.plain.varTypes Tryz.prog).any (Tryz.prog.ifacesRec ·))) = true := by kernel_rfl
theorem fact15 : ((Rows.edgeKeepsRow.mapsOut == Tryz.prog.mapsAmong Tryz.f5.resultTypes.toList)) = true := by kernel_rfl
theorem fact16 : ((Rows.edgeKeepsRow.loops == (Tryz.f5.params.toList ++ Rows.edgeKeepsSpec.plain.varTypes Tryz.prog).any (Tryz.prog.loopsFrom ·))) = true := by kernel_rfl
theorem fact17 : ((Rows.edgeKeepsRow.wideKeys == (Tryz.f5.params.toList ++ Rows.edgeKeepsSpec.plain.varTypes Tryz.prog ++ Tryz.f5.resultTypes.toList).any (Tryz.prog.wideKeysFrom ·))) = true := by kernel_rfl
theorem fact18 : (Rows.edgeKeepsSpec.vars.all (Tryz.prog.varReadable ·)) = true := by kernel_rfl
theorem fact19 : (Tryz.f5.resultTypes.all (fun t => Tryz.prog.readableRec t && decide (t < Tryz.prog.types.size))) = true := by kernel_rfl
theorem fact20 : ((Rows.edgeKeepsRow.ifacesOut == Tryz.f5.resultTypes.toList.any (Tryz.prog.ifacesRec ·))) = true := by kernel_rfl
theorem fact21 : ((Rows.edgeKeepsRow.loopsOut == Tryz.f5.resultTypes.toList.any (Tryz.prog.loopsFrom ·))) = true := by kernel_rfl
theorem fact22 : ((Rows.edgeKeepsRow.plainKeys == Tryz.prog.plainKeys)) = true := by kernel_rfl
theorem fact23 : (Rows.edgeKeepsRow.shortTexts.isNone) = true := by kernel_rfl
theorem fact24 : (Tryz.prog.stopsHeard) = true := by kernel_rfl
theorem fact25 : (Tryz.prog.mayEnter) = true := by kernel_rfl
theorem fact26 : ((Rows.edgeKeepsRow.lifted == Tryz.prog.liftsFinal)) = true := by kernel_rfl
theorem fact27 : ((Tryz.prog.make == some Rows.edgeKeepsRow.make)) = true := by kernel_rfl
theorem fact28 : ((Rows.edgeKeepsRow.kinds == (if Rows.edgeKeepsRow.domain.isEmpty then [] else Tryz.f5.params.toList.map fun t => match Tryz.prog.underlying t with | some (.int k) => some k | _ => none))) = true := by kernel_rfl
theorem fact29 : ((Rows.edgeKeepsRow.pinned == Rows.edgeKeepsRow.pinnedBy)) = true := by kernel_rfl
theorem fact30 : ((Rows.edgeKeepsRow.veiled == (Tryz.f5.params.toList ++ Rows.edgeKeepsSpec.plain.varTypes Tryz.prog ++ Tryz.f5.resultTypes.toList).any (Tryz.prog.veiledRec ·))) = true := by kernel_rfl
theorem fact31 : (Rows.edgeKeepsRow.veiledFits Tryz.prog Tryz.f5.params.toList (Tryz.f5.params.toList ++ Rows.edgeKeepsSpec.plain.varTypes Tryz.prog ++ Tryz.f5.resultTypes.toList)) = true := by kernel_rfl
theorem and_t {a b : Bool} (h : a = true) (k : b = true) : (a && b) = true := by rw [h, k]; rfl
set_option maxRecDepth 100000 in
theorem closed : joinedFacts Tryz.prog 5 Tryz.f5 Rows.edgeKeepsSpec Rows.edgeKeepsRow = true := by
  unfold joinedFacts
  exact and_t (and_t (and_t (and_t (and_t (and_t (and_t (and_t (and_t (and_t (and_t (and_t (and_t (and_t (and_t (and_t (and_t (and_t (and_t (and_t (and_t (and_t (and_t (and_t (and_t (and_t (and_t (and_t (and_t (and_t (and_t (fact0) fact1) fact2) fact3) fact4) fact5) fact6) fact7) fact8) fact9) fact10) fact11) fact12) fact13) fact14) fact15) fact16) fact17) fact18) fact19) fact20) fact21) fact22) fact23) fact24) fact25) fact26) fact27) fact28) fact29) fact30) fact31

theorem over : Rows.edgeKeepsRow.holds Tryz.pinned (OpenSpec.ofChange Rows.edgeKeepsSpec) :=
  OpenClaim.holds_of_wide 5 Tryz.f5 rfl rfl rfl rfl rfl rfl rfl ⟨rfl, rfl, rfl, rfl, rfl⟩ rfl rfl rfl rfl rfl (by kernel_rfl) Tryz.func5 closed
    (of_decide_eq_true (by kernel_rfl)) (by unfold Func.isWrapper; first | (rw [if_pos (by decide +kernel)]; kernel_rfl) | (rw [if_neg (by decide +kernel)]; exact ⟨rfl, rfl⟩))
    (fun os started H enc _ => lifted os started H enc)

theorem proved : Rows.EdgeKeepsSaid :=
  over
end Go.Proofs.YthikenallhbkpaaGreat.edgeKeeps
end
