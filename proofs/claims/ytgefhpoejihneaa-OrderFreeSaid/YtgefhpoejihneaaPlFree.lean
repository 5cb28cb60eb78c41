/-
  PLAIN LAW: CHAINS (each vertex that goes costs one).
-/
import Derived.Test.YtgefhpoejihneaaPlOr4
namespace Go.Ab.M
set_option linter.unusedVariables false
set_option linter.unusedSimpArgs false

/-- a and b are of V, and nothing of V is between -/
def Con (V : Int → Prop) (a b : Int) : Prop := V a ∧ V b ∧ a < b ∧ ∀ c, V c → ¬ (a < c ∧ c < b)
theorem con_pred {V : Int → Prop} {v : Int} (hv : V v) : ∀ (d : Nat) (lo : Int), V lo → lo < v → v - lo ≤ (d : Int) → ∃ p, Con V p v
  | 0, lo, _, h, hd => by omega
  | d + 1, lo, hl, h, hd => by
    by_cases e : ∃ c, V c ∧ lo < c ∧ c < v
    · obtain ⟨c, h1, h2, h3⟩ := e
      exact con_pred hv d c h1 h3 (by omega)
    · exact ⟨lo, hl, hv, h, fun c hc hcc => e ⟨c, hc, hcc⟩⟩
theorem con_succ {V : Int → Prop} {v : Int} (hv : V v) : ∀ (d : Nat) (hi : Int), V hi → v < hi → hi - v ≤ (d : Int) → ∃ p, Con V v p
  | 0, hi, _, h, hd => by omega
  | d + 1, hi, hl, h, hd => by
    by_cases e : ∃ c, V c ∧ v < c ∧ c < hi
    · obtain ⟨c, h1, h2, h3⟩ := e
      exact con_succ hv d c h1 h2 (by omega)
    · exact ⟨hi, hv, hl, h, fun c hc hcc => e ⟨c, hc, hcc⟩⟩
theorem con_left {V : Int → Prop} {v p q : Int} (h : Con V p v) (k : Con V q v) : p = q := by
  have h1 := h.2.2.2 q k.1
  have h2 := k.2.2.2 p h.1
  have h3 := h.2.2.1
  have h4 := k.2.2.1
  omega
theorem con_right {V : Int → Prop} {v p q : Int} (h : Con V v p) (k : Con V v q) : p = q := by
  have h1 := h.2.2.2 q k.2.1
  have h2 := k.2.2.2 p h.2.1
  have h3 := h.2.2.1
  have h4 := k.2.2.1
  omega
theorem con_next {V : Int → Prop} {v : Int} (hv : V v) (a b : Int) : (a ≠ v ∧ b ≠ v ∧ (Con V a b ∨ (Con V a v ∧ Con V v b))) ↔ Con (fun c => V c ∧ c ≠ v) a b := by
  constructor
  · rintro ⟨h1, h2, h | ⟨h, k⟩⟩
    · exact ⟨⟨h.1, h1⟩, ⟨h.2.1, h2⟩, h.2.2.1, fun c hc => h.2.2.2 c hc.1⟩
    · refine ⟨⟨h.1, h1⟩, ⟨k.2.1, h2⟩, Int.lt_trans h.2.2.1 k.2.2.1, fun c hc hcc => ?_⟩
      have h3 := h.2.2.2 c hc.1
      have h4 := k.2.2.2 c hc.1
      have h5 := hc.2
      omega
  · rintro ⟨⟨h1, h2⟩, ⟨h3, h4⟩, h5, h6⟩
    refine ⟨h2, h4, ?_⟩
    by_cases e : a < v ∧ v < b
    · refine .inr ⟨⟨h1, hv, e.1, fun c hc hcc => h6 c ⟨hc, by omega⟩ (by omega)⟩, ⟨hv, h3, e.2, fun c hc hcc => h6 c ⟨hc, by omega⟩ (by omega)⟩⟩
    · refine .inl ⟨h1, h3, h5, fun c hc hcc => ?_⟩
      by_cases ec : c = v
      · subst ec; exact e hcc
      · exact h6 c ⟨hc, ec⟩ hcc
theorem one_of {l : List Int} {p : Int} (hn : l.Nodup) (hp : p ∈ l) (h : ∀ a ∈ l, a = p) : l.length = 1 := by
  match l, hn, hp, h with
  | [x], _, _, _ => rfl
  | x :: y :: r, hn, hp, h =>
    have h1 := h x (by simp)
    have h2 := h y (by simp)
    simp [h1, h2] at hn

/-- a shape that is a chain over V -/
def Chain (k : Int) (V : Int → Prop) (s : Shape) : Prop := s.right = true ∧ s.Ins = 1 ∧ s.Mids = k ∧ s.Outs = 1 ∧ ∀ a b, Pair.mk a b ∈ s.All ↔ Con V a b
theorem chain_step {k : Int} {V : Int → Prop} {s : Shape} (h : Chain k V s) (hV : ∀ c, V c → 0 ≤ c ∧ c ≤ k + 1) (h0 : V 0) (h1 : V (k + 1)) {v : Int} (hv : V v) (hm : 1 ≤ v ∧ v ≤ k) : Chain k (fun c => V c ∧ c ≠ v) (s.next v).1 ∧ (s.next v).2.1 = 1 := by
  obtain ⟨hr, hi, hk, ho, hc⟩ := h
  have hmid : s.isMid v = true := by simp only [Shape.isMid, Bool.and_eq_true, decide_eq_true_eq]; omega
  have hn := n_le hr
  have hnx := next_right hr hmid
  have hne := next_eq hr hmid
  rw [hne] at hnx ⊢
  obtain ⟨w, rfl⟩ : ∃ w : Nat, v = w := ⟨v.toNat, by omega⟩
  refine ⟨⟨hnx, hi, hk, ho, fun a b => ?_⟩, ?_⟩
  · show Pair.mk a b ∈ pairsTo s.n (nextP s ((w : Int)).toNat) s.n ↔ _
    rw [mem_pairsTo, ← con_next hv]
    constructor
    · rintro ⟨a', b', ha, hb, hP, e⟩
      simp only [Pair.mk.injEq] at e
      obtain ⟨rfl, rfl⟩ := e
      simp only [nextP, Bool.and_eq_true, Bool.or_eq_true, Shape.has, decide_eq_true_eq, Int.toNat_natCast, hc] at hP
      exact ⟨fun e => hP.1.1 (by omega), fun e => hP.1.2 (by omega), hP.2⟩
    · rintro ⟨ha, hb, hP⟩
      have hVa : V a := by rcases hP with h | ⟨h, _⟩ <;> exact h.1
      have hVb : V b := by rcases hP with h | ⟨_, h⟩ <;> exact h.2.1
      have := hV a hVa
      have := hV b hVb
      refine ⟨a.toNat, b.toNat, by omega, by omega, ?_, by simp only [Pair.mk.injEq]; omega⟩
      have ea : ((a.toNat : Nat) : Int) = a := by omega
      have eb : ((b.toNat : Nat) : Int) = b := by omega
      simp only [nextP, Bool.and_eq_true, Bool.or_eq_true, Shape.has, decide_eq_true_eq, Int.toNat_natCast, hc, ea, eb]
      exact ⟨⟨by omega, by omega⟩, hP⟩
  · show s.cost _ = 1
    obtain ⟨p, hp⟩ := con_pred hv w 0 h0 (by omega) (by omega)
    obtain ⟨q, hq⟩ := con_succ hv (k + 1 - w).toNat (k + 1) h1 (by omega) (by omega)
    have l1 : (insOf s.All (w : Int)).length = 1 := one_of (ins_nodup hr _) (mem_ins.2 ((hc _ _).2 hp)) fun a ha => con_left ((hc _ _).1 (mem_ins.1 ha)) hp
    have l2 : (outsOf s.All (w : Int)).length = 1 := one_of (outs_nodup hr _) (mem_outs.2 ((hc _ _).2 hq)) fun a ha => con_right ((hc _ _).1 (mem_outs.1 ha)) hq
    unfold Shape.cost
    rw [if_pos ⟨hr, hmid⟩, l1, l2]
    rfl
theorem chain_steps {k : Int} {s : Shape} (hs : Chain k (fun c => 0 ≤ c ∧ c ≤ k + 1) s) {o : List Int} (hn : o.Nodup) (ho : ∀ v ∈ o, 1 ≤ v ∧ v ≤ k) : ∀ i, i ≤ o.length → (stepsOf s o i).1 = (i : Int) ∧ Chain k (fun c => (0 ≤ c ∧ c ≤ k + 1) ∧ c ∉ o.take i) (stepsOf s o i).2
  | 0, _ => by
    refine ⟨rfl, ?_⟩
    simpa [stepsOf] using hs
  | i + 1, hi => by
    obtain ⟨h1, h2⟩ := chain_steps hs hn ho i (by omega)
    have hv := ho _ (nth_mem (l := o) (i := i) (by omega))
    have hnot : nth o i ∉ o.take i := by
      intro hm
      obtain ⟨j, hj, e⟩ := List.getElem_of_mem hm
      rw [List.getElem_take] at e
      have hj' : j < i := by simp at hj; omega
      rw [nth_get (by omega)] at e
      have := (List.nodup_iff_pairwise_ne.1 hn)
      exact (List.pairwise_iff_getElem.1 this) j i (by omega) (by omega) hj' e
    obtain ⟨h3, h4⟩ := chain_step h2 (fun c hc => hc.1) ⟨by omega, fun h => by have := ho _ (List.mem_of_mem_take h); omega⟩ ⟨by omega, fun h => by have := ho _ (List.mem_of_mem_take h); omega⟩ (v := nth o i) ⟨by omega, hnot⟩ hv
    refine ⟨?_, ?_⟩
    · simp only [stepsOf, h1, h4]; omega
    · simp only [stepsOf]
      have e : (fun c => ((0 ≤ c ∧ c ≤ k + 1) ∧ c ∉ o.take i) ∧ c ≠ nth o i) = fun c => (0 ≤ c ∧ c ≤ k + 1) ∧ c ∉ o.take (i + 1) := by
        funext c
        rw [take_nth (by omega)]
        simp only [List.mem_append, List.mem_singleton, not_or, eq_iff_iff]
        constructor
        · rintro ⟨⟨a, b⟩, c⟩; exact ⟨a, b, c⟩
        · rintro ⟨a, b, c⟩; exact ⟨⟨a, b⟩, c⟩
      rw [← e]
      exact h3

/-! ### an order by a rule has every mid -/
theorem perm_erase : ∀ {m : List Int} {i : Nat}, i < m.length → m.Perm (nth m i :: m.eraseIdx i)
  | [], i, h => by simp at h
  | x :: xs, 0, _ => List.Perm.refl _
  | x :: xs, i + 1, h => by
    have ih := perm_erase (m := xs) (i := i) (by simpa using h)
    have e : nth (x :: xs) (i + 1) = nth xs i := by simp [nth, List.getD]
    rw [e, List.eraseIdx_cons_succ]
    exact (ih.cons x).trans (List.Perm.swap _ _ _)
theorem greedyP_perm (b : Bool) : ∀ (k : Nat) (s : Shape) (m : List Int), m.length = k → (greedyP b k s m).Perm m
  | 0, _, m, h => by
    rw [List.eq_nil_of_length_eq_zero h]
    exact List.Perm.refl _
  | k + 1, s, m, h => by
    have hat := atMin_lt (f := s.tell b) (m := m) (by omega)
    simp only [greedyP]
    exact ((greedyP_perm b k _ _ (by rw [List.length_eraseIdx, if_pos hat]; omega)).cons _).trans (perm_erase hat).symm
theorem by_perm {s : Shape} (hr : s.right = true) {way : Int} (h : 1 ≤ way ∧ way ≤ 4) : (s.by_ way).2 = 0 ∧ (s.by_ way).1.Perm s.mids := by
  unfold Shape.by_
  rw [if_pos hr]
  by_cases e1 : way = 1
  · rw [if_pos e1]; exact ⟨rfl, List.Perm.refl _⟩
  · rw [if_neg e1]
    by_cases e2 : way = 2
    · rw [if_pos e2]; exact ⟨rfl, List.reverse_perm _⟩
    · rw [if_neg e2]
      by_cases e3 : way = 3
      · rw [if_pos e3]; exact ⟨rfl, greedyP_perm _ _ _ _ rfl⟩
      · rw [if_neg e3, if_pos (by omega)]; exact ⟨rfl, greedyP_perm _ _ _ _ rfl⟩

/-! ### the law -/
def chainL (k : Nat) : List Pair := (List.range k).map fun i : Nat => Pair.mk (i : Int) ((i : Int) + 1)
theorem chainL_succ (k : Nat) : chainL (k + 1) = chainL k ++ [Pair.mk (k : Int) ((k : Int) + 1)] := by simp [chainL, List.range_succ]
theorem chainL_len (k : Nat) : (chainL k).length = k := by simp [chainL]
theorem free_l (n way : Int) (x0 : Bool) {k : Nat} (hk : n % 13 = (k : Int)) (hk2 : k ≤ 12) : law23_OrderFree_l n way x0 0 [] = some (chainL (k + 1)) := by
  unfold law23_OrderFree_l
  refine loop_run (round := fun σ : Nat × List Pair => law23_OrderFree_l_rd n way x0 σ.1 σ.2) (fun i => (i, chainL i)) (k + 1) (fun i hi => ?_) ?_ (by simp only [FU]; omega)
  · have hl := chainL_len i
    simp (disch := omega) only [law23_OrderFree_l_rd, Bool.cond_decide, if_t, inK_i64, cond_true, chainL_succ]
  · have e : ¬ (((k + 1 : Nat) : Int) ≤ n % 13) := by omega
    simp only [law23_OrderFree_l_rd, Bool.cond_decide, if_neg e]
theorem chain_first {k : Nat} (hk : k ≤ 12) : Chain (k : Int) (fun c => 0 ≤ c ∧ c ≤ (k : Int) + 1) (Shape.mk 1 (k : Int) 1 (chainL (k + 1))) := by
  have hmem : ∀ a b, Pair.mk a b ∈ chainL (k + 1) ↔ 0 ≤ a ∧ a ≤ (k : Int) ∧ b = a + 1 := by
    intro a b
    simp only [chainL, List.mem_map, List.mem_range, Pair.mk.injEq]
    constructor
    · rintro ⟨i, hi, rfl, rfl⟩; omega
    · rintro ⟨h1, h2, h3⟩; exact ⟨a.toNat, by omega, by omega, by omega⟩
  refine ⟨right_of (sized_iff.2 ?_) (fun p hp => ?_) ?_, rfl, rfl, rfl, fun a b => ?_⟩
  · simp only; omega
  · cases p with
    | mk a b => have := (hmem a b).1 hp; simp only; omega
  · simp only [chainL]
    rw [List.pairwise_map]
    exact List.pairwise_lt_range.imp fun {x y} h => .inl (Int.ofNat_lt.2 h)
  · rw [hmem]
    constructor
    · rintro ⟨h1, h2, rfl⟩
      exact ⟨⟨h1, by omega⟩, ⟨by omega, by omega⟩, by omega, fun c _ hc => by omega⟩
    · rintro ⟨h1, h2, h3, h4⟩
      have := h4 (a + 1) ⟨by omega, by omega⟩
      exact ⟨h1.1, by omega, by omega⟩
theorem OrderFree_at {n way : Int} (hn : 0 ≤ n) (hn2 : n ≤ 255) (hw : 0 ≤ way) (hw2 : way ≤ 255) : law23_OrderFree n way = some true := by
  obtain ⟨k, hk⟩ : ∃ k : Nat, n % 13 = (k : Int) := ⟨(n % 13).toNat, by omega⟩
  have hk2 : k ≤ 12 := by omega
  have hc := chain_first hk2
  obtain ⟨hr, -, -, -, -⟩ := id hc
  have hl : (chainL (k + 1)).length ≤ 1000 := by rw [chainL_len]; omega
  have hl2 : (chainL (k + 1)).length ≤ 2000000 := by omega
  have hnn : (Shape.mk 1 (k : Int) 1 (chainL (k + 1))).n * (Shape.mk 1 (k : Int) 1 (chainL (k + 1))).n ≤ 1000 := by
    have : (Shape.mk 1 (k : Int) 1 (chainL (k + 1))).n ≤ 14 := by simp only [Shape.n]; omega
    exact Nat.le_trans (Nat.mul_le_mul this this) (by decide)
  have hb := (By_eq (s := Shape.mk 1 (k : Int) 1 (chainL (k + 1))) hl hnn (1 + way % 4)).1
  obtain ⟨p1, p2⟩ := by_perm hr (way := 1 + way % 4) (by omega)
  have hmids : (Shape.mk 1 (k : Int) 1 (chainL (k + 1))).mids = rowOf 1 k := by simp [Shape.mids]
  rw [hmids] at p2
  generalize (Shape.mk 1 (k : Int) 1 (chainL (k + 1))).by_ (1 + way % 4) = x at *
  have hlen : x.1.length = k := by rw [p2.length_eq, rowOf_len]
  have hnd : x.1.Nodup := p2.nodup_iff.2 (rowOf_nodup _ _)
  have hmem : ∀ v ∈ x.1, 1 ≤ v ∧ v ≤ (k : Int) := fun v hv => by
    have := rowOf_mem.1 (p2.mem_iff.1 hv); omega
  obtain ⟨c1, -⟩ := chain_steps hc hnd hmem x.1.length (Nat.le_refl _)
  have hall := shape_All_eq (s := Shape.mk 1 (k : Int) 1 (chainL (k + 1))) hl2 (o := x.1) (by omega)
  have hE : eachB 1 k x.1 = true := by simp only [eachB, decide_eq_true_eq]; exact p2
  have hA : (Shape.mk 1 (k : Int) 1 (chainL (k + 1))).all x.1 = ((k : Int), 0) := by
    unfold Shape.all
    rw [if_pos hr]
    have : eachB (Shape.mk 1 (k : Int) 1 (chainL (k + 1))).Ins (Shape.mk 1 (k : Int) 1 (chainL (k + 1))).Mids.toNat x.1 = true := hE
    rw [if_pos this, c1, hlen]
  rw [hA] at hall
  unfold law23_OrderFree
  simp (disch := omega) only [awake23, Option.bind_some, Bool.cond_decide, if_t, inK_i64, cond_true, free_l n way true hk hk2, hk, hb, hall, p1, BEq.rfl]
theorem OrderFree_true (n way : Int) (hn : inRange .u8 n) (hw : inRange .u8 way) : law23_OrderFree n way = some true :=
  OrderFree_at (n := n) (way := way) hn.1 hn.2 hw.1 hw.2
end Go.Ab.M
