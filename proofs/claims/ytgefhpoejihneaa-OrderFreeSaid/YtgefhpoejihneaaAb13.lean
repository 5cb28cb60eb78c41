/-
  A LAYER OVER THE KIT's 'Code.wp' (part 13): calls, by contracts.
  Conditions: none. No project text.
-/
import Derived.Test.YtgefhpoejihneaaAb12
namespace Go.Ab
set_option linter.unusedVariables false
set_option linter.unusedSimpArgs false

theorem idxN_get {l : List Nat} : ∀ {r k : Nat}, idxN l r = some k → k < l.length ∧ nthOf l k = r := by
  induction l with
  | nil => intro r k h; simp [idxN] at h
  | cons x xs ih =>
    intro r k h
    simp only [idxN] at h
    cases hb : Nat.beq x r with
    | true => rw [hb] at h; simp at h; subst h; exact ⟨by simp, beq_true hb⟩
    | false =>
      rw [hb] at h
      simp only [cond_false, Option.map_eq_some_iff] at h
      obtain ⟨q, hq, rfl⟩ := h
      obtain ⟨h1, h2⟩ := ih hq
      exact ⟨by simp; omega, h2⟩
theorem idxN_none {l : List Nat} : ∀ {r : Nat}, idxN l r = none → r ∉ l := by
  induction l with
  | nil => intro r h; simp
  | cons x xs ih =>
    intro r h
    simp only [idxN] at h
    cases hb : Nat.beq x r with
    | true => rw [hb] at h; simp at h
    | false =>
      rw [hb] at h
      simp only [cond_false, Option.map_eq_none_iff] at h
      have := ih h
      simp only [List.mem_cons, not_or]
      exact ⟨(fun e => by subst e; rw [Nat.beq_refl] at hb; cases hb), this⟩
theorem idxN_mem {l : List Nat} {r : Nat} (h : r ∉ l) : idxN l r = none := by
  cases hh : idxN l r with
  | none => rfl
  | some k =>
    obtain ⟨h1, h2⟩ := idxN_get hh
    exfalso
    apply h
    clear h hh
    induction l generalizing k with
    | nil => simp at h1
    | cons x xs ih =>
      cases k with
      | zero => simp [nthOf] at h2; subst h2; simp
      | succ k => simp only [nthOf] at h2; exact List.mem_cons_of_mem _ (ih k (by simpa using h1) h2)
theorem nthOf_mem {l : List Nat} : ∀ {k : Nat}, k < l.length → nthOf l k ∈ l := by
  induction l with
  | nil => intro k h; simp at h
  | cons x xs ih =>
    intro k h
    cases k with
    | zero => simp [nthOf]
    | succ k => simp only [nthOf]; exact List.mem_cons_of_mem _ (ih (by simpa using h))
theorem nthOf_left {l l' : List Nat} : ∀ {k : Nat}, k < l.length → nthOf (l ++ l') k = nthOf l k := by
  induction l with
  | nil => intro k h; simp at h
  | cons x xs ih =>
    intro k h
    cases k with
    | zero => simp [nthOf]
    | succ k => simp only [List.cons_append, nthOf]; exact ih (by simpa using h)
theorem nthOf_right {l l' : List Nat} : ∀ {j : Nat}, nthOf (l ++ l') (l.length + j) = nthOf l' j := by
  induction l with
  | nil => intro j; simp
  | cons x xs ih => intro j; rw [List.length_cons, Nat.add_right_comm]; simp only [List.cons_append, nthOf]; exact ih
theorem distinct_inj {l : List Nat} : distinct l = true → ∀ {i j : Nat}, i < l.length → j < l.length → nthOf l i = nthOf l j → i = j := by
  induction l with
  | nil => intro _ i j h; simp at h
  | cons x xs ih =>
    intro hd i j hi hj he
    simp only [distinct, Bool.and_eq_true, Bool.not_eq_true'] at hd
    have hx : x ∉ xs := fun hm => by rw [mem_iff.2 hm] at hd; cases hd.1
    cases i with
    | zero =>
      cases j with
      | zero => rfl
      | succ j =>
        simp only [nthOf] at he
        exact absurd (he ▸ nthOf_mem (by simpa using hj)) hx
    | succ i =>
      cases j with
      | zero =>
        simp only [nthOf] at he
        exact absurd (he ▸ nthOf_mem (by simpa using hi)) hx
      | succ j =>
        simp only [nthOf] at he
        rw [ih hd.2 (by simpa using hi) (by simpa using hj) he]
theorem distinct_idx {l : List Nat} (hd : distinct l = true) {j : Nat} (hj : j < l.length) : idxN l (nthOf l j) = some j := by
  cases hh : idxN l (nthOf l j) with
  | none => exact absurd (nthOf_mem hj) (idxN_none hh)
  | some k =>
    obtain ⟨h1, h2⟩ := idxN_get hh
    rw [distinct_inj hd h1 hj h2]

theorem lends_get (obs : Nat → Option Ob) (m : List Nat) : ∀ (l ds : List A), A.lends obs m l = some ds → l.length = ds.length ∧ ∀ (i : Nat) (x : A) (y : A), l[i]? = some x → ds[i]? = some y → A.lend obs m x = some y
  | [], ds, h => by simp only [A.lends, Option.some.injEq] at h; subst h; exact ⟨rfl, fun i x y hx => by simp at hx⟩
  | z :: l, ds, h => by
    simp only [A.lends] at h
    split at h
    · rename_i y ys hy hys
      cases h
      obtain ⟨g1, g2⟩ := lends_get obs m l ys hys
      refine ⟨by simp [g1], fun i x y' hx hy' => ?_⟩
      cases i with
      | zero => simp at hx hy'; subst hx; subst hy'; exact hy
      | succ i => simp at hx hy'; exact g2 i x y' hx hy'
    · cases h

theorem backs_get (f : Nat → Nat) : ∀ (l : List A) (i : Nat), (A.backs f l)[i]? = (l[i]?).map (A.back f)
  | [], i => by simp [A.backs]
  | x :: xs, i => by
    cases i with
    | zero => simp [A.backs]
    | succ i => simp only [A.backs, List.getElem?_cons_succ]; exact backs_get f xs i
theorem backs_len (f : Nat → Nat) : ∀ (l : List A), (A.backs f l).length = l.length
  | [] => rfl
  | x :: xs => by simp [A.backs, backs_len f xs]
theorem upTos_get {n : Nat} : ∀ {l : List A}, A.upTos n l = true → ∀ {i : Nat} {x : A}, l[i]? = some x → A.upTo n x = true
  | [], _, i, x, h => by simp at h
  | y :: l, h, i, x, hx => by
    simp only [A.upTos, Bool.and_eq_true] at h
    cases i with
    | zero => simp at hx; subst hx; exact h.1
    | succ i => simp at hx; exact upTos_get h.2 hx

theorem rowsL_get {l : List A} {i : Nat} {x : A} (hx : l[i]? = some x) {r : Nat} (hr : r ∈ A.rows x) : r ∈ A.rowsL l := mem_rowsL.2 ⟨x, List.mem_of_getElem? hx, hr⟩

/-- A value as a callee gets it. -/
theorem RV.lend {F G : Nat → Nat → Prop} {w0 : World} {M0 : Nat → Nat → Prop} {ι0 : Nat → Loc} {s : St} {ι : Nat → Loc} {a : Act} {w : World} (R : Rel F w0 M0 ι0 s ι a w) (obs : Nat → Option Ob) (m : List Nat) (ιc : Nat → Loc) (hι : ∀ k, ιc k = ι (nthOf m k))
    (hc : Carry w (Im F s.H ι) w G) {v : Value} {x : A} (hv : RV w (Im F s.H ι) ι v x) : ∀ {y : A}, (∀ r, r ∈ A.rows x → r ∉ m → ∃ sz es fz, obs r = some (.row sz es fz) ∧ getH s.H r = some (.row sz es es.length)) → A.lend obs m x = some y → RV w G ιc v y := by
  induction hv with
  | d h => intro y _ hy; simp only [A.lend, Option.some.injEq] at hy; subst hy; exact .d (h.carry hc)
  | agg vs cs hn hr ih =>
    intro y hf hy
    simp only [A.lend] at hy
    split at hy
    · rename_i ds hds
      cases hy
      obtain ⟨g1, g2⟩ := lends_get obs m cs ds hds
      refine .agg vs ds (by rw [hn, g1]) fun i u z hu hz => ?_
      have hi : i < cs.length := by rw [← hn]; exact (Array.getElem?_eq_some_iff.1 hu).1
      have e1 := List.getElem?_eq_getElem hi
      exact ih i u _ hu e1 (fun r hr => hf r (by simp only [A.rows]; exact rowsL_get e1 hr)) (g2 i _ z e1 hz)
    · cases hy
  | tup vs cs hn hr ih =>
    intro y hf hy
    simp only [A.lend] at hy
    split at hy
    · rename_i ds hds
      cases hy
      obtain ⟨g1, g2⟩ := lends_get obs m cs ds hds
      refine .tup vs ds (by rw [hn, g1]) fun i u z hu hz => ?_
      have hi : i < cs.length := by rw [← hn]; exact (Array.getElem?_eq_some_iff.1 hu).1
      have e1 := List.getElem?_eq_getElem hi
      exact ih i u _ hu e1 (fun r hr => hf r (by simp only [A.rows]; exact rowsL_get e1 hr)) (g2 i _ z e1 hz)
    · cases hy
  | ptr r i j =>
    intro y hf hy
    simp only [A.lend] at hy
    split at hy
    · rename_i k hk
      cases hy
      obtain ⟨h1, h2⟩ := idxN_get hk
      have := RV.ptr (w := w) (I := G) (ι := ιc) k i j
      rw [hι, h2] at this
      exact this
    · cases hy
  | pp cs j b off f hm hr =>
    intro y hf hy
    simp only [A.lend, Option.some.injEq] at hy
    subst hy
    exact .pp cs j b off f (fun i d h => hc _ _ _ (hm i d h).1 (hm i d h).2) fun i d h => (hr i d h).carry hc
  | msl r lo len ln cap c hl hle hk hn ht =>
    intro y hf hy
    simp only [A.lend] at hy
    split at hy
    · rename_i k hk'
      cases hy
      obtain ⟨h1, h2⟩ := idxN_get hk'
      have := RV.msl (w := w) (I := G) (ι := ιc) k lo len ln cap c (by rw [hι, h2]; exact hl) hle hk (by rw [hι, h2]; exact hn) (by rw [hι, h2]; exact ht)
      rw [hι, h2] at this
      exact this
    · rename_i hno
      obtain ⟨sz, es, fz, h1, h2⟩ := hf r (by simp [A.rows]) (idxN_none hno)
      rw [h1] at hy
      cases hy
      exact .d ((row_rd R h2 (.msl r lo len ln cap c hl hle hk hn ht)).carry hc)
  | mslz r lo p ln cap hl hk =>
    intro y hf hy
    simp only [A.lend] at hy
    split at hy
    · rename_i k hk'
      cases hy
      obtain ⟨h1, h2⟩ := idxN_get hk'
      exact .mslz k lo p ln cap (by rw [hι, h2]; exact hl) hk
    · rename_i hno
      obtain ⟨sz, es, fz, h1, h2⟩ := hf r (by simp [A.rows]) (idxN_none hno)
      rw [h1] at hy
      cases hy
      exact .d ((row_rd R h2 (.mslz r lo p ln cap hl hk)).carry hc)
  | map r =>
    intro y hf hy
    simp only [A.lend] at hy
    split at hy
    · rename_i k hk
      cases hy
      obtain ⟨h1, h2⟩ := idxN_get hk
      have := RV.map (w := w) (I := G) (ι := ιc) k
      rw [hι, h2] at this
      exact this
    · cases hy
  | iter r =>
    intro y hf hy
    simp only [A.lend] at hy
    split at hy
    · rename_i k hk
      cases hy
      obtain ⟨h1, h2⟩ := idxN_get hk
      have := RV.iter (w := w) (I := G) (ι := ιc) k
      rw [hι, h2] at this
      exact this
    · cases hy
  | fn f xs ys p q hn hm hr hs ih1 ih2 =>
    intro y hf hy
    simp only [A.lend] at hy
    split at hy
    · rename_i p' q' hp hq
      cases hy
      obtain ⟨g1, g2⟩ := lends_get obs m p p' hp
      obtain ⟨k1, k2⟩ := lends_get obs m q q' hq
      refine .fn f xs ys p' q' (by rw [hn, g1]) (by rw [hm, k1]) (fun i u z hu hz => ?_) (fun i u z hu hz => ?_)
      · have hi : i < p.length := by rw [← hn]; exact (Array.getElem?_eq_some_iff.1 hu).1
        have e1 := List.getElem?_eq_getElem hi
        exact ih1 i u _ hu e1 (fun r hr => hf r (by simp only [A.rows, List.mem_append]; exact .inl (rowsL_get e1 hr))) (g2 i _ z e1 hz)
      · have hi : i < q.length := by rw [← hm]; exact (Array.getElem?_eq_some_iff.1 hu).1
        have e1 := List.getElem?_eq_getElem hi
        exact ih2 i u _ hu e1 (fun r hr => hf r (by simp only [A.rows, List.mem_append]; exact .inr (rowsL_get e1 hr))) (k2 i _ z e1 hz)
    · cases hy
  | iface t v x h ih =>
    intro y hf hy
    simp only [A.lend] at hy
    split at hy
    · rename_i z hz
      cases hy
      exact .iface t v z (ih (fun r hr => hf r (by simpa [A.rows] using hr)) hz)
    · cases hy
  | dead v => intro y _ hy; simp only [A.lend, Option.some.injEq] at hy; subst hy; exact .dead v

/-- A value as it comes back. -/
theorem RV.back {w : World} {I J : Nat → Nat → Prop} {ι ι' : Nat → Loc} {g : Nat → Nat} {n : Nat} (hι : ∀ k, k < n → ι' (g k) = ι k) (hc : Carry w I w J) {v : Value} {x : A} (hv : RV w I ι v x) : A.upTo n x = true → RV w J ι' v (A.back g x) := by
  induction hv with
  | d h => intro _; exact .d (h.carry hc)
  | agg vs cs hn hr ih =>
    intro hb
    refine .agg vs _ (by rw [backs_len, hn]) fun i u z hu hz => ?_
    rw [backs_get, Option.map_eq_some_iff] at hz
    obtain ⟨y, hy, rfl⟩ := hz
    exact ih i u y hu hy (upTos_get (by simpa [A.upTo] using hb) hy)
  | tup vs cs hn hr ih =>
    intro hb
    refine .tup vs _ (by rw [backs_len, hn]) fun i u z hu hz => ?_
    rw [backs_get, Option.map_eq_some_iff] at hz
    obtain ⟨y, hy, rfl⟩ := hz
    exact ih i u y hu hy (upTos_get (by simpa [A.upTo] using hb) hy)
  | ptr r i j =>
    intro hb
    have := RV.ptr (w := w) (I := J) (ι := ι') (g r) i j
    rw [hι r (by simpa [A.upTo] using hb)] at this
    exact this
  | pp cs j b off f hm hr => intro _; exact .pp cs j b off f (fun i d h => hc _ _ _ (hm i d h).1 (hm i d h).2) fun i d h => (hr i d h).carry hc
  | msl r lo len ln cap c hl hle hk hn ht =>
    intro hb
    have e := hι r (by simpa [A.upTo] using hb)
    have := RV.msl (w := w) (I := J) (ι := ι') (g r) lo len ln cap c (by rw [e]; exact hl) hle hk (by rw [e]; exact hn) (by rw [e]; exact ht)
    rw [e] at this
    exact this
  | mslz r lo p ln cap hl hk =>
    intro hb
    have e := hι r (by simpa [A.upTo] using hb)
    exact .mslz (g r) lo p ln cap (by rw [e]; exact hl) hk
  | map r =>
    intro hb
    have := RV.map (w := w) (I := J) (ι := ι') (g r)
    rw [hι r (by simpa [A.upTo] using hb)] at this
    exact this
  | iter r =>
    intro hb
    have := RV.iter (w := w) (I := J) (ι := ι') (g r)
    rw [hι r (by simpa [A.upTo] using hb)] at this
    exact this
  | fn f xs ys p q hn hm hr hs ih1 ih2 =>
    intro hb
    simp only [A.upTo, Bool.and_eq_true] at hb
    refine .fn f xs ys _ _ (by rw [backs_len, hn]) (by rw [backs_len, hm]) (fun i u z hu hz => ?_) (fun i u z hu hz => ?_)
    · rw [backs_get, Option.map_eq_some_iff] at hz
      obtain ⟨y, hy, rfl⟩ := hz
      exact ih1 i u y hu hy (upTos_get hb.1 hy)
    · rw [backs_get, Option.map_eq_some_iff] at hz
      obtain ⟨y, hy, rfl⟩ := hz
      exact ih2 i u y hu hy (upTos_get hb.2 hy)
  | iface t v x h ih => intro hb; exact .iface t v _ (ih (by simpa [A.upTo] using hb))
  | dead v => intro _; exact .dead v

theorem getH_append : ∀ (l r : Heap) (k : Nat), (∃ x, (k, x) ∈ l) → getH (l ++ r) k = getH l k
  | [], r, k, h => by obtain ⟨x, hx⟩ := h; simp at hx
  | (q, y) :: l, r, k, h => by
    rw [List.cons_append, getH_cons, getH_cons]
    by_cases e : q = k
    · rw [if_pos e, if_pos e]
    · rw [if_neg e, if_neg e]
      refine getH_append l r k ?_
      obtain ⟨x, hx⟩ := h
      cases hx with
      | head => exact absurd rfl e
      | tail _ hx => exact ⟨x, hx⟩
theorem getH_append' : ∀ (l r : Heap) (k : Nat), (∀ x, (k, x) ∉ l) → getH (l ++ r) k = getH r k ∧ getH l k = none
  | [], r, k, h => ⟨rfl, rfl⟩
  | (q, y) :: l, r, k, h => by
    rw [List.cons_append, getH_cons, getH_cons]
    have e : q ≠ k := fun e => h y (by rw [e]; simp)
    rw [if_neg e, if_neg e]
    exact getH_append' l r k fun x hx => h x (List.mem_cons_of_mem _ hx)

theorem getH_mapped (g : Nat → Nat) (f : Option Ob → Option Ob) : ∀ (l : Heap) (N k : Nat), (∀ i j, i < N → j < N → g i = g j → i = j) → (∀ x, x ∈ l → x.1 < N) → k < N → (∃ x, (k, x) ∈ l) → getH (l.map fun x => (g x.1, f x.2)) (g k) = f (getH l k)
  | [], N, k, _, _, _, h => by obtain ⟨x, hx⟩ := h; simp at hx
  | (q, y) :: l, N, k, hinj, hl, hk, h => by
    rw [List.map_cons, getH_cons, getH_cons]
    by_cases e : q = k
    · rw [if_pos (by rw [e]), if_pos e]
    · rw [if_neg (fun e' => e (hinj q k (hl _ List.mem_cons_self) hk e')), if_neg e]
      refine getH_mapped g f l N k hinj (fun x hx => hl x (List.mem_cons_of_mem _ hx)) hk ?_
      obtain ⟨x, hx⟩ := h
      cases hx with
      | head => exact absurd rfl e
      | tail _ hx => exact ⟨x, hx⟩

theorem lendObs_get (obs : Nat → Option Ob) (m : List Nat) : ∀ (rs : List Nat) (i : Nat) (H : Heap), lendObs obs m i rs = some H →
    ∀ k o, getH H k = some o → i ≤ k ∧ k < i + rs.length ∧ ∃ o', obs (nthOf rs (k - i)) = some o' ∧ lendOb obs m o' = some o
  | [], i, H, h, k, o, ho => by simp only [lendObs, Option.some.injEq] at h; subst h; simp [getH] at ho
  | r :: rs, i, H, h, k, o, ho => by
    simp only [lendObs] at h
    split at h
    · rename_i o' ho'
      split at h
      · rename_i y ys hy hys
        cases h
        rw [getH_cons] at ho
        by_cases e : i = k
        · subst e
          rw [if_pos rfl] at ho
          cases ho
          exact ⟨Nat.le_refl _, by simp, o', by simpa [nthOf] using ho', hy⟩
        · rw [if_neg e] at ho
          obtain ⟨h1, h2, o2, h3, h4⟩ := lendObs_get obs m rs (i + 1) ys hys k o ho
          have e2 : k - i = (k - (i + 1)) + 1 := by omega
          exact ⟨by omega, by simp; omega, o2, by rw [e2]; simpa [nthOf] using h3, h4⟩
      · cases h
    · cases h

theorem frz_get (obs : Nat → Option Ob) : True := trivial

theorem Dflats_get {l : List D} (h : D.flats l = true) {i : Nat} {d : D} (hd : l[i]? = some d) : D.flat d = true := by
  induction l generalizing i with
  | nil => simp at hd
  | cons x xs ih =>
    simp only [D.flats, Bool.and_eq_true] at h
    cases i with
    | zero => simp at hd; subst hd; exact h.1
    | succ i => simp at hd; exact ih h.2 hd
theorem flats_get {l : List A} (h : A.flats l = true) {i : Nat} {d : A} (hd : l[i]? = some d) : A.flat d = true := by
  induction l generalizing i with
  | nil => simp at hd
  | cons x xs ih =>
    simp only [A.flats, Bool.and_eq_true] at h
    cases i with
    | zero => simp at hd; subst hd; exact h.1
    | succ i => simp at hd; exact ih h.2 hd
theorem RD.ofFlat {w : World} {I J : Nat → Nat → Prop} {v : Value} {d : D} (h : RD w I v d) : D.flat d = true → RD w J v d := by
  induction h with
  | v x h => intro _; exact .v x h
  | emp a cap => intro _; exact .emp a cap
  | sl b off sz cap es f hle hs hm _ ih =>
    intro hf
    cases es with
    | nil => exact .emp _ _
    | cons x xs => simp [D.flat] at hf
  | agg vs cs hn _ ih => intro hf; exact .agg vs cs hn fun i v d h1 h2 => ih i v d h1 h2 (Dflats_get (by simpa [D.flat] using hf) h2)
  | iface t v x _ ih => intro hf; exact .iface t v x (ih (by simpa [D.flat] using hf))
theorem RV.ofFlat {w : World} {I J : Nat → Nat → Prop} {ι : Nat → Loc} {v : Value} {a : A} (h : RV w I ι v a) : A.flat a = true → RV w J ι v a := by
  induction h with
  | d h => intro hf; exact .d (h.ofFlat (by simpa [A.flat] using hf))
  | agg vs cs hn _ ih => intro hf; exact .agg vs cs hn fun i v d h1 h2 => ih i v d h1 h2 (flats_get (by simpa [A.flat] using hf) h2)
  | tup vs cs hn _ ih => intro hf; exact .tup vs cs hn fun i v d h1 h2 => ih i v d h1 h2 (flats_get (by simpa [A.flat] using hf) h2)
  | ptr r i j => intro _; exact .ptr r i j
  | pp cs j b off f hm hr => intro hf; simp [A.flat] at hf
  | msl r lo len ln cap c hl hle hk hn ht => intro _; exact .msl r lo len ln cap c hl hle hk hn ht
  | mslz r lo a ln cap hl hk => intro _; exact .mslz r lo a ln cap hl hk
  | map r => intro _; exact .map r
  | iter r => intro _; exact .iter r
  | fn f xs ys first cap hn hm _ _ ih1 ih2 =>
    intro hf
    simp only [A.flat, Bool.and_eq_true] at hf
    exact .fn f xs ys first cap hn hm (fun i v d h1 h2 => ih1 i v d h1 h2 (flats_get hf.1 h2)) (fun i v d h1 h2 => ih2 i v d h1 h2 (flats_get hf.2 h2))
  | iface t v x _ ih => intro hf; exact .iface t v x (ih (by simpa [A.flat] using hf))
  | dead v => intro _; exact .dead v
theorem HFlat.get : ∀ {H : Heap}, HFlat H → ∀ {k : Nat} {o : Ob}, getH H k = some o → o.Flat
  | [], _, k, o, h => by simp [getH] at h
  | (q, x) :: H, hf, k, o, h => by
    rw [getH_cons] at h
    cases x with
    | none =>
      split at h
      · cases h
      · exact HFlat.get (H := H) hf h
    | some y =>
      split at h
      · cases h; exact hf.1
      · exact HFlat.get (H := H) hf.2 h

section
variable {P : Program} {F : Nat → Nat → Prop} {w0 : World} {M0 : Nat → Nat → Prop} {ι0 : Nat → Loc} {s : St} {ι : Nat → Loc} {a : Act} {w : World} {e : Eff} {h : Hint}

/-- THE LAW OF CALLS: the callee is called with its arguments as it gets them; when it has returned, the state goes on. -/
theorem call_rel_fz (hk : h.keep = false) {id : FuncId} {args : List A} {vs : Array Value} (R : Rel F w0 M0 ι0 s ι a w) (hs : semCall P id args h (getH s.H) = some e) (ho : All e.obl) (hf : ∀ k, k ∈ e.new → s.free k = true) (hv : RVs w (Im F s.H ι) ι vs args) :
    Calls P id vs w fun r w' => ∃ v ι', r = .returned v ∧ Rel F w0 M0 ι0 { s with H := e.up ++ s.H } ι' a w' ∧ RV w' (Im F (e.up ++ s.H) ι') ι' v e.res := by
  simp only [semCall] at hs
  split at hs
  · rename_i args' Hc fz hargs hH hfz
    cases hb : callable P id && distinct h.m && distinct h.new && h.H.all (fun x => Nat.blt x.1 (h.m.length + h.new.length) && obBelow (h.m.length + h.new.length) x.2) && A.upTo (h.m.length + h.new.length) h.r with
    | false => rw [hb] at hs; cases hs
    | true =>
      rw [hb] at hs
      simp only [cond_true, hk, cond_false, Option.some.injEq] at hs
      subst hs
      simp only [Bool.and_eq_true] at hb
      obtain ⟨⟨⟨⟨hcal, hdm⟩, hdn⟩, hall⟩, hbr⟩ := hb
      have hcon : ACallsD P id h.m.length args' Hc h.r h.H := ho.1
      -- the state with borrowed rows frozen
      obtain ⟨R1, hF, hA, hN⟩ := frz_rel R _ _ hfz
      have hfree : ∀ k, k ∈ h.new → Free { s with H := fz ++ s.H } k := fun k hk => Free.froze (free_spec (hf k hk)) hF
      have hmH : ∀ r, r ∈ h.m → ∃ o, getH s.H r = some o ∧ getH (fz ++ s.H) r = some o := fun r hr => by
        have hnb : r ∉ borrowed (getH s.H) h.m args := fun hb => by
          simp only [borrowed, List.mem_filter, Bool.not_eq_true'] at hb
          rw [mem_iff.2 hr] at hb
          cases hb.2
        have e1 := hN r hnb
        obtain ⟨k, hk, hk2⟩ : ∃ k, k < h.m.length ∧ nthOf h.m k = r := by
          cases hi : idxN h.m r with
          | none => exact absurd hr (idxN_none hi)
          | some k => exact ⟨k, idxN_get hi⟩
        have key : ∀ (rs : List Nat) (i : Nat) (H : Heap), lendObs (getH s.H) h.m i rs = some H → ∀ q, q ∈ rs → ∃ o, getH s.H q = some o := by
          intro rs
          induction rs with
          | nil => intro i H _ q hq; simp at hq
          | cons x xs ih =>
            intro i H hl q hq
            simp only [lendObs] at hl
            split at hl
            · rename_i o' ho'
              split at hl
              · rename_i y ys hy hys
                cases hq with
                | head => exact ⟨o', ho'⟩
                | tail _ hq => exact ih (i + 1) ys hys q hq
              · cases hl
            · cases hl
        obtain ⟨o, ho⟩ := key _ _ _ hH r hr
        exact ⟨o, ho, by rw [e1]; exact ho⟩
      generalize hH1 : fz ++ s.H = H1 at *
      let g := nthOf (h.m ++ h.new)
      let ιc : Nat → Loc := fun k => ι (nthOf h.m k)
      let Fc : Nat → Nat → Prop := fun b o => F b o ∨ ∃ r ob, getH H1 r = some ob ∧ r ∉ h.m ∧ (ι r).b = b ∧ ob.from (ι r) ≤ o
      have hc1 : Carry w (Im F s.H ι) w (Im F H1 ι) := Froze.carry R hF
      -- the callee's objects
      have hobj : ∀ k o, getH Hc k = some o → k < h.m.length ∧ ∃ o', getH H1 (nthOf h.m k) = some o' ∧ getH s.H (nthOf h.m k) = some o' ∧ lendOb (getH s.H) h.m o' = some o ∧ ∀ L, o.from L = o'.from L := fun k o hk => by
        obtain ⟨_, h1, o', h2, h3⟩ := lendObs_get _ _ _ _ _ hH k o hk
        simp at h1 h2
        obtain ⟨o2, h4, h5⟩ := hmH _ (nthOf_mem h1)
        rw [h2] at h4
        cases h4
        refine ⟨h1, o', h5, h2, h3, fun L => ?_⟩
        cases o' with
        | box cs =>
          simp only [lendOb] at h3
          split at h3
          · cases h3; rfl
          · cases h3
        | _ => simp only [lendOb, Option.some.injEq] at h3; subst h3; rfl
      have hmutc : ∀ b o, Mut Hc ιc b o → Mut H1 ι b o := by
        rintro b o ⟨k, ob, h1, h2, h3⟩
        obtain ⟨_, o', h4, _, _, h5⟩ := hobj k ob h1
        exact ⟨nthOf h.m k, o', h4, h2, by rw [← h5]; exact h3⟩
      have hmutc' : ∀ b o, Mut Hc ιc b o → ∃ r ob, r ∈ h.m ∧ getH H1 r = some ob ∧ (ι r).b = b := by
        rintro b o ⟨k, ob, h1, h2, h3⟩
        obtain ⟨h6, o', h4, _, _, h5⟩ := hobj k ob h1
        exact ⟨nthOf h.m k, o', nthOf_mem h6, h4, h2⟩
      have hcc : Carry w (Im F H1 ι) w (Im Fc Hc ιc) := Carry.weaken fun b o hi => ⟨fun hm => hi.1 (hmutc b o hm), fun hf => by
        rcases hf with hf | ⟨r, ob, h1, _, h2, h3⟩
        · exact hi.2 hf
        · exact hi.1 ⟨r, ob, h1, h2, h3⟩⟩
      have hbor : ∀ r, r ∈ A.rowsL args ∨ (∃ q cs, q ∈ h.m ∧ getH s.H q = some (.box cs) ∧ r ∈ A.rowsL cs) → r ∉ h.m → ∃ sz es fz', getH s.H r = some (.row sz es fz') ∧ getH H1 r = some (.row sz es es.length) := fun r hr hm => by
        refine hA r ?_
        simp only [borrowed, List.mem_filter, List.mem_append, List.mem_flatMap, Bool.not_eq_true']
        refine ⟨?_, ?_⟩
        · rcases hr with hr | ⟨q, cs, h1, h2, h3⟩
          · exact .inl hr
          · exact .inr ⟨q, h1, by simp only [h2]; exact h3⟩
        · cases hh : mem h.m r with
          | false => rfl
          | true => exact absurd (mem_iff.1 hh) hm
      have R1' : Rel F w0 M0 ι0 { s with H := H1 } ι a w := R1
      have hpre : Pre Fc w ιc Hc args' vs := by
        obtain ⟨l1, l2⟩ := lends_get _ _ _ _ hargs
        refine ⟨by rw [hv.1, l1], fun i v x hvi hx => ?_, fun k o hk => ?_, fun k k' o o' hk hk' hb => ?_, fun b o hf => ?_, fun k o hk q hf => ?_⟩
        · have hi : i < args.length := by rw [← hv.1]; exact (Array.getElem?_eq_some_iff.1 hvi).1
          have e1 := List.getElem?_eq_getElem hi
          exact RV.lend R1' (getH s.H) h.m ιc (fun _ => rfl) hcc ((hv.2 i v _ hvi e1).carry' hc1) (fun r hr hm => hbor r (.inl (rowsL_get e1 hr)) hm) (l2 i _ x e1 hx)
        · obtain ⟨h1, o', h2, h3, h4, h5⟩ := hobj k o hk
          obtain ⟨b1, b2⟩ := R1'.obj _ o' h2
          refine ⟨b1, ?_⟩
          cases o' with
          | box cs =>
            simp only [lendOb] at h4
            split at h4
            · rename_i cs' hcs
              cases h4
              obtain ⟨c, ty, c1, c2, c3, c4⟩ := b2
              obtain ⟨m1, m2⟩ := lends_get _ _ _ _ hcs
              refine ⟨c, ty, c1, c2, by rw [c3, m1], fun i v x hvi hx => ?_⟩
              have hi : i < cs.length := by rw [← c3]; exact (Array.getElem?_eq_some_iff.1 hvi).1
              have e1 := List.getElem?_eq_getElem hi
              exact RV.lend R1' (getH s.H) h.m ιc (fun _ => rfl) hcc (c4 i v _ hvi e1) (fun r hr hm => hbor r (.inr ⟨nthOf h.m k, cs, nthOf_mem h1, h3, rowsL_get e1 hr⟩) hm) (m2 i _ x e1 hx)
            · cases h4
          | row sz es fz' =>
            simp only [lendOb, Option.some.injEq] at h4
            subst h4
            obtain ⟨c, ty, c1, c2, c3, c4, c5, c6, c7, c8⟩ := b2
            exact ⟨c, ty, c1, c2, c3, c4, c5, c6, c7, fun i j c' d v x y z => (c8 i j c' d v x y z).carry hcc⟩
          | map es =>
            simp only [lendOb, Option.some.injEq] at h4
            subst h4
            obtain ⟨mm, kk, c1, c2, c3⟩ := b2
            exact ⟨mm, kk, c1, c2, fun i e x y z => ⟨(c3 i e x y z).1, (c3 i e x y z).2.carry hcc⟩⟩
          | str st pos =>
            simp only [lendOb, Option.some.injEq] at h4
            subst h4
            exact b2
        · obtain ⟨h1, o1, h2, _⟩ := hobj k o hk
          obtain ⟨h1', o1', h2', _⟩ := hobj k' o' hk'
          exact distinct_inj hdm h1 h1' (R1'.apart _ _ _ _ h2 h2' hb)
        · rcases hf with hf | ⟨r, ob, h1, _, h2, _⟩
          · exact Nat.lt_of_lt_of_le (R1'.foreign b o hf) R1'.evo.size
          · rw [← h2]; exact (R1'.obj r ob h1).1
        · obtain ⟨h1, o1, h2, _⟩ := hobj k o hk
          rcases hf with hf | ⟨r, ob, h3, h4, h5, _⟩
          · exact R1'.apartF _ _ h2 q hf
          · have : r = nthOf h.m k := R1'.apart r _ ob o1 h3 h2 h5
            exact h4 (this ▸ nthOf_mem h1)
      refine (hcon Fc w ιc vs hpre).mono fun rr w' => ?_
      rintro ⟨v, r, H', ι', rfl, ⟨rfl, rfl⟩, pp⟩
      refine ⟨v, fun q => match idxN h.new q with | some j => ι' (h.m.length + j) | none => ι q, rfl, ?_⟩
      generalize hι2 : (fun q => match idxN h.new q with | some j => ι' (h.m.length + j) | none => ι q : Nat → Loc) = ι2
      have ι2_old : ∀ q, q ∉ h.new → ι2 q = ι q := fun q hq => by rw [← hι2]; simp only [idxN_mem hq]
      have hnew_none : ∀ q, q ∈ h.new → getH H1 q = none := fun q hq => (hfree q hq).2.1
      have hm_new : ∀ q, q ∈ h.m → q ∉ h.new := fun q hq hn => by
        obtain ⟨o, _, h2⟩ := hmH q hq
        rw [hnew_none q hn] at h2
        cases h2
      have g_left : ∀ k, k < h.m.length → g k = nthOf h.m k := fun k hk => nthOf_left hk
      have g_right : ∀ j, g (h.m.length + j) = nthOf h.new j := fun j => nthOf_right
      have ι2_g : ∀ k, k < h.m.length + h.new.length → ι2 (g k) = ι' k := fun k hk => by
        by_cases hlt : k < h.m.length
        · rw [g_left k hlt, ι2_old _ (hm_new _ (nthOf_mem hlt))]
          exact (pp.pin k hlt).symm
        · obtain ⟨j, rfl⟩ : ∃ j, k = h.m.length + j := ⟨k - h.m.length, by omega⟩
          have hj : j < h.new.length := by omega
          rw [g_right, ← hι2]
          simp only [distinct_idx hdn hj]
      have g_mem : ∀ k, k < h.m.length + h.new.length → g k ∈ h.m ∨ g k ∈ h.new := fun k hk => by
        by_cases hlt : k < h.m.length
        · exact .inl (by rw [g_left k hlt]; exact nthOf_mem hlt)
        · obtain ⟨j, rfl⟩ : ∃ j, k = h.m.length + j := ⟨k - h.m.length, by omega⟩
          exact .inr (by rw [g_right]; exact nthOf_mem (by omega))
      have g_inj : ∀ i j, i < h.m.length + h.new.length → j < h.m.length + h.new.length → g i = g j → i = j := fun i j hi hj he => by
        by_cases h1 : i < h.m.length <;> by_cases h2 : j < h.m.length
        · rw [g_left i h1, g_left j h2] at he; exact distinct_inj hdm h1 h2 he
        · obtain ⟨q, rfl⟩ : ∃ q, j = h.m.length + q := ⟨j - h.m.length, by omega⟩
          rw [g_left i h1, g_right] at he
          exact absurd (he ▸ nthOf_mem (by omega)) (hm_new _ (nthOf_mem h1))
        · obtain ⟨q, rfl⟩ : ∃ q, i = h.m.length + q := ⟨i - h.m.length, by omega⟩
          rw [g_left j h2, g_right] at he
          exact absurd (he ▸ nthOf_mem (by omega)) (hm_new _ (nthOf_mem h2))
        · obtain ⟨q, rfl⟩ : ∃ q, i = h.m.length + q := ⟨i - h.m.length, by omega⟩
          obtain ⟨q', rfl⟩ : ∃ q', j = h.m.length + q' := ⟨j - h.m.length, by omega⟩
          rw [g_right, g_right] at he
          rw [distinct_inj hdn (by omega) (by omega) he]
      have hkeys : ∀ x, x ∈ h.H → x.1 < h.m.length + h.new.length := fun x hx => by
        have := List.all_eq_true.1 hall x hx
        simp only [Bool.and_eq_true] at this
        simpa using this.1
      have hbel : ∀ k o, getH h.H k = some o → obBelow (h.m.length + h.new.length) (some o) = true := by
        intro k o hk
        have : ∀ (l : Heap), (∀ x, x ∈ l → x ∈ h.H) → getH l k = some o → (k, some o) ∈ h.H := by
          intro l
          induction l with
          | nil => intro _ hh; simp [getH] at hh
          | cons y l ih =>
            intro hsub hh
            rw [getH_cons] at hh
            split at hh
            · rename_i e
              have := hsub y List.mem_cons_self
              obtain ⟨y1, y2⟩ := y
              simp only at e hh
              rw [← e, ← hh]
              exact this
            · exact ih (fun x hx => hsub x (List.mem_cons_of_mem _ hx)) hh
        have h2 := List.all_eq_true.1 hall _ (this h.H (fun _ hx => hx) hk)
        simp only [Bool.and_eq_true] at h2
        exact h2.2
      -- the heap afterwards
      have hup : (h.H.map (fun x => (g x.1, match x.2 with | some o => some (backOb g o) | none => none)) ++ h.m.map (fun r => (r, (none : Option Ob))) ++ fz) ++ s.H = h.H.map (fun x => (g x.1, match x.2 with | some o => some (backOb g o) | none => none)) ++ (h.m.map (fun r => (r, (none : Option Ob))) ++ H1) := by
        rw [List.append_assoc, List.append_assoc, hH1]
      have hsecond : ∀ q, getH (h.m.map (fun r => (r, (none : Option Ob))) ++ H1) q = if q ∈ h.m then none else getH H1 q := by
        intro q
        generalize h.m = l
        induction l with
        | nil => simp
        | cons x xs ih =>
          rw [List.map_cons, List.cons_append, getH_cons, ih]
          by_cases e : x = q
          · rw [if_pos e, if_pos (by rw [e]; simp)]
          · rw [if_neg e]
            have : (q ∈ x :: xs) = (q ∈ xs) := by simp [Ne.symm e]
            simp only [this]
      have hget : ∀ q o, getH (h.H.map (fun x => (g x.1, match x.2 with | some o => some (backOb g o) | none => none)) ++ (h.m.map (fun r => (r, (none : Option Ob))) ++ H1)) q = some o →
          (∃ k o', k < h.m.length + h.new.length ∧ q = g k ∧ getH h.H k = some o' ∧ o = backOb g o') ∨ (q ∉ h.m ∧ q ∉ h.new ∧ getH H1 q = some o) := by
        intro q o hq
        by_cases hin : ∃ x, (q, x) ∈ h.H.map (fun x => (g x.1, match x.2 with | some o => some (backOb g o) | none => none))
        · rw [getH_append _ _ _ hin] at hq
          obtain ⟨x, hx⟩ := hin
          obtain ⟨y, hy, hyx⟩ := List.mem_map.1 hx
          simp only [Prod.mk.injEq] at hyx
          obtain ⟨e1, e2⟩ := hyx
          have hk := hkeys y hy
          rw [← e1, getH_mapped g (fun x => match x with | some o => some (backOb g o) | none => none) h.H _ y.1 g_inj hkeys hk ⟨y.2, hy⟩] at hq
          cases hgy : getH h.H y.1 with
          | none => rw [hgy] at hq; cases hq
          | some o' =>
            rw [hgy] at hq
            simp only [Option.some.injEq] at hq
            exact .inl ⟨y.1, o', hk, e1.symm, hgy, hq.symm⟩
        · have hin' : ∀ x, (q, x) ∉ h.H.map (fun x => (g x.1, match x.2 with | some o => some (backOb g o) | none => none)) := fun x hx => hin ⟨x, hx⟩
          rw [(getH_append' _ _ _ hin').1, hsecond] at hq
          split at hq
          · cases hq
          · rename_i hqm
            exact .inr ⟨hqm, (fun hn => by rw [hnew_none q hn] at hq; cases hq), hq⟩
      have hfromb : ∀ (o : Ob) (L : Loc), (backOb g o).from L = o.from L := fun o L => by cases o <;> rfl
      show Rel F w0 M0 ι0 { s with H := (h.H.map (fun x => (g x.1, match x.2 with | some o => some (backOb g o) | none => none)) ++ h.m.map (fun r => (r, (none : Option Ob))) ++ fz) ++ s.H } ι2 a w' ∧ RV w' (Im F ((h.H.map (fun x => (g x.1, match x.2 with | some o => some (backOb g o) | none => none)) ++ h.m.map (fun r => (r, (none : Option Ob))) ++ fz) ++ s.H) ι2) ι2 v (A.back g h.r)
      rw [hup]
      generalize h.H.map (fun x => (g x.1, match x.2 with | some o => some (backOb g o) | none => none)) ++ (h.m.map (fun r => (r, (none : Option Ob))) ++ H1) = H2 at *
      have hmut2 : ∀ b o, Mut H2 ι2 b o → Mut h.H ι' b o ∨ ∃ r ob, getH H1 r = some ob ∧ r ∉ h.m ∧ (ι r).b = b ∧ ob.from (ι r) ≤ o := by
        rintro b o ⟨q, ob, h1, h2, h3⟩
        rcases hget q ob h1 with ⟨k, o', k1, rfl, k2, rfl⟩ | ⟨k1, k2, k3⟩
        · rw [ι2_g k k1] at h2 h3
          rw [hfromb] at h3
          exact .inl ⟨k, o', k2, h2, h3⟩
        · rw [ι2_old q k2] at h2 h3
          exact .inr ⟨q, ob, k3, k1, h2, h3⟩
      have hcb : Carry w' (Im Fc h.H ι') w' (Im F H2 ι2) := Carry.weaken fun b o hi => ⟨fun hm => by
        rcases hmut2 b o hm with h1 | h1
        · exact hi.1 h1
        · exact hi.2 (.inr h1), fun hf => hi.2 (.inl hf)⟩
      refine ⟨?_, pp.res.back ι2_g hcb hbr⟩
      have R2 := R1'.turn (s' := { s with H := H2 }) (ι' := ι2) (w' := w') rfl rfl rfl pp.evo.os pp.evo.tape pp.evo.output pp.evo.size
        (fun b o x hx hM => pp.evo.cell b o x hx fun hm => hM (hmutc b o hm)) (fun b hb hM => pp.evo.block b hb fun o hm => hM o (hmutc b o hm))
        (fun b o hm => by
          rcases hmut2 b o hm with h1 | ⟨r, ob, h1, _, h2, h3⟩
          · rcases pp.own b o h1 with h4 | h4
            · exact .inl h4
            · exact .inr (hmutc b o h4)
          · exact .inr ⟨r, ob, h1, h2, h3⟩)
        (fun t r hr => ι2_old r fun hn => by
          have := (hfree r hn).2.2.1 t
          have hr' : A.has r (getT s.T t) = true := hr
          rw [this] at hr'; cases hr')
        (fun k hk => ι2_old k fun hn => by have := (hfree k hn).1; have hk' : k < s.p := hk; have h9 : s.p ≤ k := this; omega)
        (fun hc q o hq => by
          rcases hget q o hq with ⟨k, o', k1, rfl, k2, rfl⟩ | ⟨k1, k2, k3⟩
          · obtain ⟨p1, p2⟩ := pp.obj k o' k2
            refine ⟨by rw [ι2_g k k1]; exact p1, ?_⟩
            cases o' with
            | box cs =>
              obtain ⟨c, ty, c1, c2, c3, c4⟩ := p2
              refine ⟨c, ty, by rw [ι2_g k k1]; exact c1, by rw [ι2_g k k1]; exact c2, by rw [backs_len]; exact c3, fun i v x hvi hx => ?_⟩
              rw [backs_get, Option.map_eq_some_iff] at hx
              obtain ⟨y, hy, rfl⟩ := hx
              exact (c4 i v y hvi hy).back ι2_g hcb (upTos_get (hbel k _ k2) hy)
            | row sz es fz' =>
              obtain ⟨c, ty, c1, c2, c3, c4, c5, c6, c7, c8⟩ := p2
              show RO w' _ ι2 (g k) (.row sz es fz')
              simp only [RO]
              rw [ι2_g k k1]
              exact ⟨c, ty, c1, c2, c3, c4, c5, c6, c7, fun i j c' d v x y z => (c8 i j c' d v x y z).carry hcb⟩
            | map es =>
              obtain ⟨mm, kk, c1, c2, c3⟩ := p2
              show RO w' _ ι2 (g k) (.map es)
              simp only [RO]
              rw [ι2_g k k1]
              exact ⟨mm, kk, c1, c2, fun i e x y z => ⟨(c3 i e x y z).1, (c3 i e x y z).2.carry hcb⟩⟩
            | str st pos =>
              show RO w' _ ι2 (g k) (.str st pos)
              simp only [RO]
              rw [ι2_g k k1]
              exact p2
          · obtain ⟨p1, p2⟩ := R1'.obj q o k3
            have hblk : w'.heap[(ι q).b]? = w.heap[(ι q).b]? := pp.evo.block _ p1 fun o' hm => by
              obtain ⟨r, ob, r1, r2, r3⟩ := hmutc' _ o' hm
              exact k1 (R1'.apart q r o ob k3 r2 r3.symm ▸ r1)
            refine ⟨by rw [ι2_old q k2]; exact Nat.lt_of_lt_of_le p1 pp.evo.size, p2.carry hblk hc (ι2_old q k2) fun k hk => ι2_old k fun hn => ?_⟩
            have := (hfree k hn).2.2.2 q o k3
            rw [this] at hk
            cases hk)
        (fun q q' o o' hq hq' hb => by
          rcases hget q o hq with ⟨k, o1, k1, rfl, k2, rfl⟩ | ⟨k1, k2, k3⟩ <;> rcases hget q' o' hq' with ⟨l, o2, l1, rfl, l2, rfl⟩ | ⟨l1, l2, l3⟩
          · rw [ι2_g k k1, ι2_g l l1] at hb
            rw [pp.apart k l o1 o2 k2 l2 hb]
          · exfalso
            rw [ι2_g k k1, ι2_old q' l2] at hb
            exact pp.apartF k o1 k2 (o'.from (ι q')) (.inr ⟨q', o', l3, l1, hb.symm, Nat.le_refl _⟩)
          · exfalso
            rw [ι2_g l l1, ι2_old q k2] at hb
            exact pp.apartF l o2 l2 (o.from (ι q)) (.inr ⟨q, o, k3, k1, hb, Nat.le_refl _⟩)
          · rw [ι2_old q k2, ι2_old q' l2] at hb
            exact R1'.apart q q' o o' k3 l3 hb)
        (fun q o hq p hf => by
          rcases hget q o hq with ⟨k, o1, k1, rfl, k2, rfl⟩ | ⟨k1, k2, k3⟩
          · rw [ι2_g k k1] at hf
            exact pp.apartF k o1 k2 p (.inl hf)
          · rw [ι2_old q k2] at hf
            exact R1'.apartF q o k3 p hf)
      exact R2
  · cases hs
/-- the same where nothing that comes back tells of cells: rows that were lent are as they were; the callee is called with its arguments as it gets them; when it has returned, the state goes on. -/
theorem call_rel_keep (hk : h.keep = true) {id : FuncId} {args : List A} {vs : Array Value} (R : Rel F w0 M0 ι0 s ι a w) (hs : semCall P id args h (getH s.H) = some e) (ho : All e.obl) (hf : ∀ k, k ∈ e.new → s.free k = true) (hv : RVs w (Im F s.H ι) ι vs args) :
    Calls P id vs w fun r w' => ∃ v ι', r = .returned v ∧ Rel F w0 M0 ι0 { s with H := e.up ++ s.H } ι' a w' ∧ RV w' (Im F (e.up ++ s.H) ι') ι' v e.res := by
  simp only [semCall] at hs
  split at hs
  · rename_i args' Hc fz hargs hH hfz
    cases hb : callable P id && distinct h.m && distinct h.new && h.H.all (fun x => Nat.blt x.1 (h.m.length + h.new.length) && obBelow (h.m.length + h.new.length) x.2) && A.upTo (h.m.length + h.new.length) h.r with
    | false => rw [hb] at hs; cases hs
    | true =>
      rw [hb] at hs
      simp only [cond_true, hk, Option.some.injEq] at hs
      subst hs
      simp only [Bool.and_eq_true] at hb
      obtain ⟨⟨⟨⟨hcal, hdm⟩, hdn⟩, hall⟩, hbr⟩ := hb
      have hcon : ACallsD P id h.m.length args' Hc h.r h.H := ho.1
      have hflr : A.flat h.r = true := ho.2.1
      have hflH : HFlat h.H := ho.2.2.1
      -- the state with borrowed rows frozen
      obtain ⟨R1, hF, hA, hN⟩ := frz_rel R _ _ hfz
      have hfree : ∀ k, k ∈ h.new → Free { s with H := fz ++ s.H } k := fun k hk => Free.froze (free_spec (hf k hk)) hF
      have hmH : ∀ r, r ∈ h.m → ∃ o, getH s.H r = some o ∧ getH (fz ++ s.H) r = some o := fun r hr => by
        have hnb : r ∉ borrowed (getH s.H) h.m args := fun hb => by
          simp only [borrowed, List.mem_filter, Bool.not_eq_true'] at hb
          rw [mem_iff.2 hr] at hb
          cases hb.2
        have e1 := hN r hnb
        obtain ⟨k, hk, hk2⟩ : ∃ k, k < h.m.length ∧ nthOf h.m k = r := by
          cases hi : idxN h.m r with
          | none => exact absurd hr (idxN_none hi)
          | some k => exact ⟨k, idxN_get hi⟩
        have key : ∀ (rs : List Nat) (i : Nat) (H : Heap), lendObs (getH s.H) h.m i rs = some H → ∀ q, q ∈ rs → ∃ o, getH s.H q = some o := by
          intro rs
          induction rs with
          | nil => intro i H _ q hq; simp at hq
          | cons x xs ih =>
            intro i H hl q hq
            simp only [lendObs] at hl
            split at hl
            · rename_i o' ho'
              split at hl
              · rename_i y ys hy hys
                cases hq with
                | head => exact ⟨o', ho'⟩
                | tail _ hq => exact ih (i + 1) ys hys q hq
              · cases hl
            · cases hl
        obtain ⟨o, ho⟩ := key _ _ _ hH r hr
        exact ⟨o, ho, by rw [e1]; exact ho⟩
      generalize hH1 : fz ++ s.H = H1 at *
      let g := nthOf (h.m ++ h.new)
      let ιc : Nat → Loc := fun k => ι (nthOf h.m k)
      let Fc : Nat → Nat → Prop := fun b o => F b o ∨ ∃ r ob, getH H1 r = some ob ∧ r ∉ h.m ∧ (ι r).b = b ∧ ob.from (ι r) ≤ o
      have hc1 : Carry w (Im F s.H ι) w (Im F H1 ι) := Froze.carry R hF
      -- the callee's objects
      have hobj : ∀ k o, getH Hc k = some o → k < h.m.length ∧ ∃ o', getH H1 (nthOf h.m k) = some o' ∧ getH s.H (nthOf h.m k) = some o' ∧ lendOb (getH s.H) h.m o' = some o ∧ ∀ L, o.from L = o'.from L := fun k o hk => by
        obtain ⟨_, h1, o', h2, h3⟩ := lendObs_get _ _ _ _ _ hH k o hk
        simp at h1 h2
        obtain ⟨o2, h4, h5⟩ := hmH _ (nthOf_mem h1)
        rw [h2] at h4
        cases h4
        refine ⟨h1, o', h5, h2, h3, fun L => ?_⟩
        cases o' with
        | box cs =>
          simp only [lendOb] at h3
          split at h3
          · cases h3; rfl
          · cases h3
        | _ => simp only [lendOb, Option.some.injEq] at h3; subst h3; rfl
      have hmutc : ∀ b o, Mut Hc ιc b o → Mut H1 ι b o := by
        rintro b o ⟨k, ob, h1, h2, h3⟩
        obtain ⟨_, o', h4, _, _, h5⟩ := hobj k ob h1
        exact ⟨nthOf h.m k, o', h4, h2, by rw [← h5]; exact h3⟩
      have hmutc' : ∀ b o, Mut Hc ιc b o → ∃ r ob, r ∈ h.m ∧ getH H1 r = some ob ∧ (ι r).b = b := by
        rintro b o ⟨k, ob, h1, h2, h3⟩
        obtain ⟨h6, o', h4, _, _, h5⟩ := hobj k ob h1
        exact ⟨nthOf h.m k, o', nthOf_mem h6, h4, h2⟩
      have hcc : Carry w (Im F H1 ι) w (Im Fc Hc ιc) := Carry.weaken fun b o hi => ⟨fun hm => hi.1 (hmutc b o hm), fun hf => by
        rcases hf with hf | ⟨r, ob, h1, _, h2, h3⟩
        · exact hi.2 hf
        · exact hi.1 ⟨r, ob, h1, h2, h3⟩⟩
      have hbor : ∀ r, r ∈ A.rowsL args ∨ (∃ q cs, q ∈ h.m ∧ getH s.H q = some (.box cs) ∧ r ∈ A.rowsL cs) → r ∉ h.m → ∃ sz es fz', getH s.H r = some (.row sz es fz') ∧ getH H1 r = some (.row sz es es.length) := fun r hr hm => by
        refine hA r ?_
        simp only [borrowed, List.mem_filter, List.mem_append, List.mem_flatMap, Bool.not_eq_true']
        refine ⟨?_, ?_⟩
        · rcases hr with hr | ⟨q, cs, h1, h2, h3⟩
          · exact .inl hr
          · exact .inr ⟨q, h1, by simp only [h2]; exact h3⟩
        · cases hh : mem h.m r with
          | false => rfl
          | true => exact absurd (mem_iff.1 hh) hm
      have R1' : Rel F w0 M0 ι0 { s with H := H1 } ι a w := R1
      have hpre : Pre Fc w ιc Hc args' vs := by
        obtain ⟨l1, l2⟩ := lends_get _ _ _ _ hargs
        refine ⟨by rw [hv.1, l1], fun i v x hvi hx => ?_, fun k o hk => ?_, fun k k' o o' hk hk' hb => ?_, fun b o hf => ?_, fun k o hk q hf => ?_⟩
        · have hi : i < args.length := by rw [← hv.1]; exact (Array.getElem?_eq_some_iff.1 hvi).1
          have e1 := List.getElem?_eq_getElem hi
          exact RV.lend R1' (getH s.H) h.m ιc (fun _ => rfl) hcc ((hv.2 i v _ hvi e1).carry' hc1) (fun r hr hm => hbor r (.inl (rowsL_get e1 hr)) hm) (l2 i _ x e1 hx)
        · obtain ⟨h1, o', h2, h3, h4, h5⟩ := hobj k o hk
          obtain ⟨b1, b2⟩ := R1'.obj _ o' h2
          refine ⟨b1, ?_⟩
          cases o' with
          | box cs =>
            simp only [lendOb] at h4
            split at h4
            · rename_i cs' hcs
              cases h4
              obtain ⟨c, ty, c1, c2, c3, c4⟩ := b2
              obtain ⟨m1, m2⟩ := lends_get _ _ _ _ hcs
              refine ⟨c, ty, c1, c2, by rw [c3, m1], fun i v x hvi hx => ?_⟩
              have hi : i < cs.length := by rw [← c3]; exact (Array.getElem?_eq_some_iff.1 hvi).1
              have e1 := List.getElem?_eq_getElem hi
              exact RV.lend R1' (getH s.H) h.m ιc (fun _ => rfl) hcc (c4 i v _ hvi e1) (fun r hr hm => hbor r (.inr ⟨nthOf h.m k, cs, nthOf_mem h1, h3, rowsL_get e1 hr⟩) hm) (m2 i _ x e1 hx)
            · cases h4
          | row sz es fz' =>
            simp only [lendOb, Option.some.injEq] at h4
            subst h4
            obtain ⟨c, ty, c1, c2, c3, c4, c5, c6, c7, c8⟩ := b2
            exact ⟨c, ty, c1, c2, c3, c4, c5, c6, c7, fun i j c' d v x y z => (c8 i j c' d v x y z).carry hcc⟩
          | map es =>
            simp only [lendOb, Option.some.injEq] at h4
            subst h4
            obtain ⟨mm, kk, c1, c2, c3⟩ := b2
            exact ⟨mm, kk, c1, c2, fun i e x y z => ⟨(c3 i e x y z).1, (c3 i e x y z).2.carry hcc⟩⟩
          | str st pos =>
            simp only [lendOb, Option.some.injEq] at h4
            subst h4
            exact b2
        · obtain ⟨h1, o1, h2, _⟩ := hobj k o hk
          obtain ⟨h1', o1', h2', _⟩ := hobj k' o' hk'
          exact distinct_inj hdm h1 h1' (R1'.apart _ _ _ _ h2 h2' hb)
        · rcases hf with hf | ⟨r, ob, h1, _, h2, _⟩
          · exact Nat.lt_of_lt_of_le (R1'.foreign b o hf) R1'.evo.size
          · rw [← h2]; exact (R1'.obj r ob h1).1
        · obtain ⟨h1, o1, h2, _⟩ := hobj k o hk
          rcases hf with hf | ⟨r, ob, h3, h4, h5, _⟩
          · exact R1'.apartF _ _ h2 q hf
          · have : r = nthOf h.m k := R1'.apart r _ ob o1 h3 h2 h5
            exact h4 (this ▸ nthOf_mem h1)
      refine (hcon Fc w ιc vs hpre).mono fun rr w' => ?_
      rintro ⟨v, r, H', ι', rfl, ⟨rfl, rfl⟩, pp⟩
      refine ⟨v, fun q => match idxN h.new q with | some j => ι' (h.m.length + j) | none => ι q, rfl, ?_⟩
      generalize hι2 : (fun q => match idxN h.new q with | some j => ι' (h.m.length + j) | none => ι q : Nat → Loc) = ι2
      have ι2_old : ∀ q, q ∉ h.new → ι2 q = ι q := fun q hq => by rw [← hι2]; simp only [idxN_mem hq]
      have hfree0 : ∀ k, k ∈ h.new → Free s k := fun k hk => free_spec (hf k hk)
      have hmut1 : ∀ b o, Mut H1 ι b o → Mut s.H ι b o := fun b o hm => hF.mut (fun r sz es fz hr => R.fz_le hr) hm
      have hH1s : ∀ q ob, getH s.H q = some ob → ∃ ob1, getH H1 q = some ob1 := fun q ob hq => by
        rcases hF q with h3 | ⟨sz, es, fz', h3, h4⟩
        · exact ⟨ob, by rw [h3]; exact hq⟩
        · exact ⟨_, h4⟩
      have hnew_none : ∀ q, q ∈ h.new → getH s.H q = none := fun q hq => (hfree0 q hq).2.1
      have hm_new : ∀ q, q ∈ h.m → q ∉ h.new := fun q hq hn => by
        obtain ⟨o, h2, _⟩ := hmH q hq
        rw [hnew_none q hn] at h2
        cases h2
      have g_left : ∀ k, k < h.m.length → g k = nthOf h.m k := fun k hk => nthOf_left hk
      have g_right : ∀ j, g (h.m.length + j) = nthOf h.new j := fun j => nthOf_right
      have ι2_g : ∀ k, k < h.m.length + h.new.length → ι2 (g k) = ι' k := fun k hk => by
        by_cases hlt : k < h.m.length
        · rw [g_left k hlt, ι2_old _ (hm_new _ (nthOf_mem hlt))]
          exact (pp.pin k hlt).symm
        · obtain ⟨j, rfl⟩ : ∃ j, k = h.m.length + j := ⟨k - h.m.length, by omega⟩
          have hj : j < h.new.length := by omega
          rw [g_right, ← hι2]
          simp only [distinct_idx hdn hj]
      have g_mem : ∀ k, k < h.m.length + h.new.length → g k ∈ h.m ∨ g k ∈ h.new := fun k hk => by
        by_cases hlt : k < h.m.length
        · exact .inl (by rw [g_left k hlt]; exact nthOf_mem hlt)
        · obtain ⟨j, rfl⟩ : ∃ j, k = h.m.length + j := ⟨k - h.m.length, by omega⟩
          exact .inr (by rw [g_right]; exact nthOf_mem (by omega))
      have g_inj : ∀ i j, i < h.m.length + h.new.length → j < h.m.length + h.new.length → g i = g j → i = j := fun i j hi hj he => by
        by_cases h1 : i < h.m.length <;> by_cases h2 : j < h.m.length
        · rw [g_left i h1, g_left j h2] at he; exact distinct_inj hdm h1 h2 he
        · obtain ⟨q, rfl⟩ : ∃ q, j = h.m.length + q := ⟨j - h.m.length, by omega⟩
          rw [g_left i h1, g_right] at he
          exact absurd (he ▸ nthOf_mem (by omega)) (hm_new _ (nthOf_mem h1))
        · obtain ⟨q, rfl⟩ : ∃ q, i = h.m.length + q := ⟨i - h.m.length, by omega⟩
          rw [g_left j h2, g_right] at he
          exact absurd (he ▸ nthOf_mem (by omega)) (hm_new _ (nthOf_mem h2))
        · obtain ⟨q, rfl⟩ : ∃ q, i = h.m.length + q := ⟨i - h.m.length, by omega⟩
          obtain ⟨q', rfl⟩ : ∃ q', j = h.m.length + q' := ⟨j - h.m.length, by omega⟩
          rw [g_right, g_right] at he
          rw [distinct_inj hdn (by omega) (by omega) he]
      have hkeys : ∀ x, x ∈ h.H → x.1 < h.m.length + h.new.length := fun x hx => by
        have := List.all_eq_true.1 hall x hx
        simp only [Bool.and_eq_true] at this
        simpa using this.1
      have hbel : ∀ k o, getH h.H k = some o → obBelow (h.m.length + h.new.length) (some o) = true := by
        intro k o hk
        have : ∀ (l : Heap), (∀ x, x ∈ l → x ∈ h.H) → getH l k = some o → (k, some o) ∈ h.H := by
          intro l
          induction l with
          | nil => intro _ hh; simp [getH] at hh
          | cons y l ih =>
            intro hsub hh
            rw [getH_cons] at hh
            split at hh
            · rename_i e
              have := hsub y List.mem_cons_self
              obtain ⟨y1, y2⟩ := y
              simp only at e hh
              rw [← e, ← hh]
              exact this
            · exact ih (fun x hx => hsub x (List.mem_cons_of_mem _ hx)) hh
        have h2 := List.all_eq_true.1 hall _ (this h.H (fun _ hx => hx) hk)
        simp only [Bool.and_eq_true] at h2
        exact h2.2
      -- the heap afterwards
      have hup : (h.H.map (fun x => (g x.1, match x.2 with | some o => some (backOb g o) | none => none)) ++ h.m.map (fun r => (r, (none : Option Ob))) ++ (bif true then [] else fz)) ++ s.H = h.H.map (fun x => (g x.1, match x.2 with | some o => some (backOb g o) | none => none)) ++ (h.m.map (fun r => (r, (none : Option Ob))) ++ s.H) := by
        simp only [cond_true, List.append_nil, List.append_assoc]
      have hsecond : ∀ q, getH (h.m.map (fun r => (r, (none : Option Ob))) ++ s.H) q = if q ∈ h.m then none else getH s.H q := by
        intro q
        generalize h.m = l
        induction l with
        | nil => simp
        | cons x xs ih =>
          rw [List.map_cons, List.cons_append, getH_cons, ih]
          by_cases e : x = q
          · rw [if_pos e, if_pos (by rw [e]; simp)]
          · rw [if_neg e]
            have : (q ∈ x :: xs) = (q ∈ xs) := by simp [Ne.symm e]
            simp only [this]
      have hget : ∀ q o, getH (h.H.map (fun x => (g x.1, match x.2 with | some o => some (backOb g o) | none => none)) ++ (h.m.map (fun r => (r, (none : Option Ob))) ++ s.H)) q = some o →
          (∃ k o', k < h.m.length + h.new.length ∧ q = g k ∧ getH h.H k = some o' ∧ o = backOb g o') ∨ (q ∉ h.m ∧ q ∉ h.new ∧ getH s.H q = some o) := by
        intro q o hq
        by_cases hin : ∃ x, (q, x) ∈ h.H.map (fun x => (g x.1, match x.2 with | some o => some (backOb g o) | none => none))
        · rw [getH_append _ _ _ hin] at hq
          obtain ⟨x, hx⟩ := hin
          obtain ⟨y, hy, hyx⟩ := List.mem_map.1 hx
          simp only [Prod.mk.injEq] at hyx
          obtain ⟨e1, e2⟩ := hyx
          have hk := hkeys y hy
          rw [← e1, getH_mapped g (fun x => match x with | some o => some (backOb g o) | none => none) h.H _ y.1 g_inj hkeys hk ⟨y.2, hy⟩] at hq
          cases hgy : getH h.H y.1 with
          | none => rw [hgy] at hq; cases hq
          | some o' =>
            rw [hgy] at hq
            simp only [Option.some.injEq] at hq
            exact .inl ⟨y.1, o', hk, e1.symm, hgy, hq.symm⟩
        · have hin' : ∀ x, (q, x) ∉ h.H.map (fun x => (g x.1, match x.2 with | some o => some (backOb g o) | none => none)) := fun x hx => hin ⟨x, hx⟩
          rw [(getH_append' _ _ _ hin').1, hsecond] at hq
          split at hq
          · cases hq
          · rename_i hqm
            exact .inr ⟨hqm, (fun hn => by rw [hnew_none q hn] at hq; cases hq), hq⟩
      have hfromb : ∀ (o : Ob) (L : Loc), (backOb g o).from L = o.from L := fun o L => by cases o <;> rfl
      show Rel F w0 M0 ι0 { s with H := (h.H.map (fun x => (g x.1, match x.2 with | some o => some (backOb g o) | none => none)) ++ h.m.map (fun r => (r, (none : Option Ob))) ++ (bif true then [] else fz)) ++ s.H } ι2 a w' ∧ RV w' (Im F ((h.H.map (fun x => (g x.1, match x.2 with | some o => some (backOb g o) | none => none)) ++ h.m.map (fun r => (r, (none : Option Ob))) ++ (bif true then [] else fz)) ++ s.H) ι2) ι2 v (A.back g h.r)
      rw [hup]
      generalize h.H.map (fun x => (g x.1, match x.2 with | some o => some (backOb g o) | none => none)) ++ (h.m.map (fun r => (r, (none : Option Ob))) ++ s.H) = H2 at *
      have hmut2 : ∀ b o, Mut H2 ι2 b o → Mut h.H ι' b o ∨ ∃ r ob, getH s.H r = some ob ∧ r ∉ h.m ∧ (ι r).b = b ∧ ob.from (ι r) ≤ o := by
        rintro b o ⟨q, ob, h1, h2, h3⟩
        rcases hget q ob h1 with ⟨k, o', k1, rfl, k2, rfl⟩ | ⟨k1, k2, k3⟩
        · rw [ι2_g k k1] at h2 h3
          rw [hfromb] at h3
          exact .inl ⟨k, o', k2, h2, h3⟩
        · rw [ι2_old q k2] at h2 h3
          exact .inr ⟨q, ob, k3, k1, h2, h3⟩
      refine ⟨?_, (pp.res.ofFlat hflr).back ι2_g (Carry.refl _ _) hbr⟩
      have R2 := R.turn (s' := { s with H := H2 }) (ι' := ι2) (w' := w') rfl rfl rfl pp.evo.os pp.evo.tape pp.evo.output pp.evo.size
        (fun b o x hx hM => pp.evo.cell b o x hx fun hm => hM (hmut1 b o (hmutc b o hm))) (fun b hb hM => pp.evo.block b hb fun o hm => hM o (hmut1 b o (hmutc b o hm)))
        (fun b o hm => by
          rcases hmut2 b o hm with h1 | ⟨r, ob, h1, _, h2, h3⟩
          · rcases pp.own b o h1 with h4 | h4
            · exact .inl h4
            · exact .inr (hmut1 b o (hmutc b o h4))
          · exact .inr ⟨r, ob, h1, h2, h3⟩)
        (fun t r hr => ι2_old r fun hn => by
          have := (hfree0 r hn).2.2.1 t
          have hr' : A.has r (getT s.T t) = true := hr
          rw [this] at hr'; cases hr')
        (fun k hk => ι2_old k fun hn => by have := (hfree0 k hn).1; have hk' : k < s.p := hk; have h9 : s.p ≤ k := this; omega)
        (fun hc q o hq => by
          rcases hget q o hq with ⟨k, o', k1, rfl, k2, rfl⟩ | ⟨k1, k2, k3⟩
          · obtain ⟨p1, p2⟩ := pp.obj k o' k2
            refine ⟨by rw [ι2_g k k1]; exact p1, ?_⟩
            cases o' with
            | box cs =>
              obtain ⟨c, ty, c1, c2, c3, c4⟩ := p2
              refine ⟨c, ty, by rw [ι2_g k k1]; exact c1, by rw [ι2_g k k1]; exact c2, by rw [backs_len]; exact c3, fun i v x hvi hx => ?_⟩
              rw [backs_get, Option.map_eq_some_iff] at hx
              obtain ⟨y, hy, rfl⟩ := hx
              exact ((c4 i v y hvi hy).ofFlat (flats_get (hflH.get k2) hy)).back ι2_g (Carry.refl _ _) (upTos_get (hbel k _ k2) hy)
            | row sz es fz' =>
              obtain ⟨c, ty, c1, c2, c3, c4, c5, c6, c7, c8⟩ := p2
              show RO w' _ ι2 (g k) (.row sz es fz')
              simp only [RO]
              rw [ι2_g k k1]
              exact ⟨c, ty, c1, c2, c3, c4, c5, c6, c7, fun i j c' d v x y z => (c8 i j c' d v x y z).ofFlat (Dflats_get (hflH.get k2 c' (List.mem_of_getElem? x)) y)⟩
            | map es =>
              obtain ⟨mm, kk, c1, c2, c3⟩ := p2
              show RO w' _ ι2 (g k) (.map es)
              simp only [RO]
              rw [ι2_g k k1]
              exact ⟨mm, kk, c1, c2, fun i e x y z => ⟨(c3 i e x y z).1, (c3 i e x y z).2.ofFlat (hflH.get k2 x (List.mem_of_getElem? z))⟩⟩
            | str st pos =>
              show RO w' _ ι2 (g k) (.str st pos)
              simp only [RO]
              rw [ι2_g k k1]
              exact p2
          · obtain ⟨p1, p2⟩ := R.obj q o k3
            have hblk : w'.heap[(ι q).b]? = w.heap[(ι q).b]? := pp.evo.block _ p1 fun o' hm => by
              obtain ⟨r, ob, r1, r2, r3⟩ := hmutc' _ o' hm
              obtain ⟨ob2, hob2, _⟩ := hmH r r1
              exact k1 (R.apart q r o ob2 k3 hob2 r3.symm ▸ r1)
            refine ⟨by rw [ι2_old q k2]; exact Nat.lt_of_lt_of_le p1 pp.evo.size, p2.carry hblk hc (ι2_old q k2) fun k hk => ι2_old k fun hn => ?_⟩
            have := (hfree0 k hn).2.2.2 q o k3
            rw [this] at hk
            cases hk)
        (fun q q' o o' hq hq' hb => by
          rcases hget q o hq with ⟨k, o1, k1, rfl, k2, rfl⟩ | ⟨k1, k2, k3⟩ <;> rcases hget q' o' hq' with ⟨l, o2, l1, rfl, l2, rfl⟩ | ⟨l1, l2, l3⟩
          · rw [ι2_g k k1, ι2_g l l1] at hb
            rw [pp.apart k l o1 o2 k2 l2 hb]
          · exfalso
            rw [ι2_g k k1, ι2_old q' l2] at hb
            obtain ⟨o3, l4⟩ := hH1s q' o' l3
            exact pp.apartF k o1 k2 (o3.from (ι q')) (.inr ⟨q', o3, l4, l1, hb.symm, Nat.le_refl _⟩)
          · exfalso
            rw [ι2_g l l1, ι2_old q k2] at hb
            obtain ⟨o3, k4⟩ := hH1s q o k3
            exact pp.apartF l o2 l2 (o3.from (ι q)) (.inr ⟨q, o3, k4, k1, hb, Nat.le_refl _⟩)
          · rw [ι2_old q k2, ι2_old q' l2] at hb
            exact R.apart q q' o o' k3 l3 hb)
        (fun q o hq p hf => by
          rcases hget q o hq with ⟨k, o1, k1, rfl, k2, rfl⟩ | ⟨k1, k2, k3⟩
          · rw [ι2_g k k1] at hf
            exact pp.apartF k o1 k2 p (.inl hf)
          · rw [ι2_old q k2] at hf
            exact R.apartF q o k3 p hf)
      exact R2
  · cases hs

theorem call_rel {id : FuncId} {args : List A} {vs : Array Value} (R : Rel F w0 M0 ι0 s ι a w) (hs : semCall P id args h (getH s.H) = some e) (ho : All e.obl) (hf : ∀ k, k ∈ e.new → s.free k = true) (hv : RVs w (Im F s.H ι) ι vs args) :
    Calls P id vs w fun r w' => ∃ v ι', r = .returned v ∧ Rel F w0 M0 ι0 { s with H := e.up ++ s.H } ι' a w' ∧ RV w' (Im F (e.up ++ s.H) ι') ι' v e.res := by
  cases hk : h.keep with
  | false => exact call_rel_fz hk R hs ho hf hv
  | true => exact call_rel_keep hk R hs ho hf hv
end
end Go.Ab
