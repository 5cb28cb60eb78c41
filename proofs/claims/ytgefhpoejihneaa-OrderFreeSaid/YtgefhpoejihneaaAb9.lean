/-
  A LAYER OVER THE KIT's 'Code.wp' (part 9): rows that nobody writes any more; new boxes, written-out slices, made slices.
  Conditions: none. No project text.
-/
import Derived.Test.YtgefhpoejihneaaAb8
namespace Go.Ab
set_option linter.unusedVariables false
set_option linter.unusedSimpArgs false

section
variable {P : Program} {F : Nat → Nat → Prop} {w0 : World} {M0 : Nat → Nat → Prop} {ι0 : Nat → Loc} {s : St} {ι : Nat → Loc} {a : Act} {w : World} {e : Eff}
  {dst : Option Tmp} {ty : TypeId} {pos : String} {after : Array Edge} {guard : Option (Nat × Bool)} {h : Hint}

theorem Rel.freeze (R : Rel F w0 M0 ι0 s ι a w) {r sz fz : Nat} {es : List (List D)} (hr : getH s.H r = some (.row sz es fz)) :
    Rel F w0 M0 ι0 { s with H := (r, some (.row sz es es.length)) :: s.H } ι a w := by
  obtain ⟨hb, c, ty, h1, h2, h3, h4, h5, h6, h7, h8⟩ := R.obj r _ hr
  refine R.write hr rfl rfl rfl rfl (fun _ _ => rfl) (fun _ _ h _ => h) ?_ (fun I hc => ?_)
  · simp only [Ob.from]
    have := Nat.mul_le_mul_right sz h6
    omega
  · exact ⟨c, ty, h1, h2, h3, h4, h5, Nat.le_refl _, h7, fun i j c' d v a b e => (h8 i j c' d v a b e).carry hc⟩

/-- H' is H with some rows frozen -/
def Froze (H H' : Heap) : Prop := ∀ r, getH H' r = getH H r ∨ ∃ sz es fz, getH H r = some (.row sz es fz) ∧ getH H' r = some (.row sz es es.length)

theorem frz_rel (R : Rel F w0 M0 ι0 s ι a w) : ∀ (rs : List Nat) (fr : Heap), frz (getH s.H) rs = some fr →
    Rel F w0 M0 ι0 { s with H := fr ++ s.H } ι a w ∧ Froze s.H (fr ++ s.H) ∧ (∀ r, r ∈ rs → ∃ sz es fz, getH s.H r = some (.row sz es fz) ∧ getH (fr ++ s.H) r = some (.row sz es es.length)) ∧ ∀ r, r ∉ rs → getH (fr ++ s.H) r = getH s.H r
  | [], fr, h => by
    simp only [frz, Option.some.injEq] at h
    subst h
    exact ⟨R, fun r => .inl rfl, fun r hr => by simp at hr, fun _ _ => rfl⟩
  | q :: rs, fr, h => by
    simp only [frz] at h
    split at h
    · rename_i sz es fz fr' h1 h2
      simp only [Option.some.injEq] at h
      subst h
      obtain ⟨R', hF, hA, hN⟩ := frz_rel R rs fr' h2
      have hq : ∃ fz', getH (fr' ++ s.H) q = some (.row sz es fz') := by
        rcases hF q with h3 | ⟨sz', es', fz', h3, h4⟩
        · exact ⟨fz, by rw [h3]; exact h1⟩
        · rw [h1] at h3
          cases h3
          exact ⟨_, h4⟩
      obtain ⟨fz', hq⟩ := hq
      refine ⟨R'.freeze hq, fun r => ?_, fun r hr => ?_, fun r hr => ?_⟩
      · show getH ((q, some (.row sz es es.length)) :: (fr' ++ s.H)) r = _ ∨ _
        rw [List.cons_append, getH_cons]
        by_cases e : q = r
        · subst e
          rw [if_pos rfl]
          exact .inr ⟨sz, es, fz, h1, rfl⟩
        · rw [if_neg e]
          exact hF r
      · rw [List.cons_append, getH_cons]
        by_cases e : q = r
        · subst e
          rw [if_pos rfl]
          exact ⟨sz, es, fz, h1, rfl⟩
        · rw [if_neg e]
          refine hA r ?_
          cases hr with
          | head => exact absurd rfl e
          | tail _ h => exact h
      · rw [List.cons_append, getH_cons, if_neg (fun e => hr (by rw [e]; simp))]
        exact hN r fun hm => hr (List.mem_cons_of_mem _ hm)
    · cases h

theorem Froze.mut {H H' : Heap} (h : Froze H H') {b o : Nat} (hR : ∀ r sz es fz, getH H r = some (.row sz es fz) → fz ≤ es.length) (hm : Mut H' ι b o) : Mut H ι b o := by
  obtain ⟨r, ob, h1, h2, h3⟩ := hm
  rcases h r with h4 | ⟨sz, es, fz, h4, h5⟩
  · exact ⟨r, ob, by rw [← h4]; exact h1, h2, h3⟩
  · rw [h5] at h1
    cases h1
    refine ⟨r, _, h4, h2, ?_⟩
    simp only [Ob.from] at h3 ⊢
    have := Nat.mul_le_mul_right sz (hR _ _ _ _ h4)
    omega

theorem Rel.fz_le (R : Rel F w0 M0 ι0 s ι a w) {r sz fz : Nat} {es : List (List D)} (hr : getH s.H r = some (.row sz es fz)) : fz ≤ es.length := by
  obtain ⟨hb, c, ty, h1, h2, h3, h4, h5, h6, h7, h8⟩ := R.obj r _ hr
  exact h6

theorem Froze.carry {H' : Heap} (R : Rel F w0 M0 ι0 s ι a w) (h : Froze s.H H') : Carry w (Im F s.H ι) w (Im F H' ι) :=
  Carry.weaken fun b o hi => ⟨fun hm => hi.1 (h.mut (fun r sz es fz hr => R.fz_le hr) hm), hi.2⟩

/-- the value of a slice over a frozen row is pure data -/
theorem row_rd (R : Rel F w0 M0 ι0 s ι a w) {r sz lo : Nat} {es : List (List D)} {ln cap : Option Nat} {v : Value} (hr : getH s.H r = some (.row sz es es.length)) (hv : RV w (Im F s.H ι) ι v (.msl r lo ln cap)) :
    RD w (Im F s.H ι) v (.sl (sub lo ln es)) := by
  obtain ⟨hb, c, ty, h1, h2, h3, h4, h5, h6, h7, h8⟩ := R.obj r _ hr
  rcases rv_msl hv with ⟨cp, hv, hc1, hk1, hn1, ht1⟩ | ⟨a', hv, hl0, hk0⟩
  · subst hv
    rw [h2, h4] at *
    have hcell : ∀ (i j : Nat) (c' : List D) (d : D), es[i]? = some c' → c'[j]? = some d → (ι r).off + i * sz + j < c.size ∧ i * sz + j < es.length * sz := fun i j c' d hi hd => by
      have hj : j < sz := by rw [← h7 i _ hi]; exact (List.getElem?_eq_some_iff.1 hd).1
      have hi' : i < es.length := (List.getElem?_eq_some_iff.1 hi).1
      have h9 : i * sz + j < es.length * sz := by
        have : (i + 1) * sz ≤ es.length * sz := Nat.mul_le_mul_right _ hi'
        rw [Nat.add_mul] at this
        omega
      exact ⟨by omega, h9⟩
    have e1 : lo + ln.getD (es.length - lo) - lo = ln.getD (es.length - lo) := by omega
    have := sub_rd (w := w) (I := Im F s.H ι) (b := (ι r).b) (off := (ι r).off) (sz := sz) (cap := cp) (L := lo) (H := lo + ln.getD (es.length - lo)) (es := es)
      (f := fun i j => c.getD ((ι r).off + i * sz + j) undef) ln (by omega) (by omega) hn1 (by omega) h7 (fun i j c' d hi hd => ?_) (fun i j c' d hi hd => ?_)
    · rw [e1] at this; exact this
    · obtain ⟨h9, h10⟩ := hcell i j c' d hi hd
      refine ⟨by simp [World.cell?, h1, h9], ?_, R.apartF r _ hr _⟩
      rintro ⟨r', ob, g1, g2, g3⟩
      have er : r' = r := R.apart r' r ob _ g1 hr g2
      subst er
      rw [hr] at g1
      cases g1
      simp only [Ob.from] at g3
      omega
    · obtain ⟨h9, h10⟩ := hcell i j c' d hi hd
      exact h8 i j c' d _ hi hd (by simp [h9])
  · have e1 : sub lo ln es = [] := by
      rw [h4] at hl0
      unfold sub
      split
      · simp at hl0; exact hl0
      · simp at hl0; exact List.drop_eq_nil_of_le (by omega)
      · simp at hl0; simp [hl0]
    rw [e1, hv]
    exact .emp _ _

mutual
theorem toD_rd (R : Rel F w0 M0 ι0 s ι a w) (obs : Nat → Option Ob) : ∀ (x : A) (d : D) (v : Value), (∀ r, r ∈ A.rows x → ∃ sz es fz, obs r = some (.row sz es fz) ∧ getH s.H r = some (.row sz es es.length)) → RV w (Im F s.H ι) ι v x → A.toD obs x = some d → RD w (Im F s.H ι) v d
  | .d x, d, v, hf, hv, hd => by
    simp only [A.toD, Option.some.injEq] at hd
    subst hd
    exact rv_d hv
  | .agg cs, d, v, hf, hv, hd => by
    simp only [A.toD] at hd
    split at hd
    · rename_i ds hds
      cases hd
      obtain ⟨vs, rfl, hn, hr⟩ := rv_agg hv
      obtain ⟨g1, g2⟩ := toDs_rd R obs cs ds (fun r hr => hf r hr) hds
      exact .agg vs ds (by rw [hn, g1]) fun i u y hu hy => by
        have hi : i < cs.length := by rw [← hn]; exact (Array.getElem?_eq_some_iff.1 hu).1
        exact g2 i u cs[i] y (List.getElem?_eq_getElem hi) hy (hr i u _ hu (List.getElem?_eq_getElem hi))
    · cases hd
  | .msl r lo ln cap, d, v, hf, hv, hd => by
    obtain ⟨sz, es, fz, h1, h2⟩ := hf r (by simp [A.rows])
    simp only [A.toD, h1, Option.some.injEq] at hd
    subst hd
    exact row_rd R h2 hv
  | .fn f [] [], d, v, hf, hv, hd => by
    simp only [A.toD, Option.some.injEq] at hd
    subst hd
    cases hv with
    | fn f xs ys p q h1 h2 h3 h4 =>
      simp at h1 h2
      subst h1; subst h2
      exact .v _ rfl
  | .iface t x, d, v, hf, hv, hd => by
    simp only [A.toD] at hd
    split at hd
    · rename_i y hy
      cases hd
      cases hv with
      | iface t v x hv => exact .iface t v _ (toD_rd R obs x y v (fun r hr => hf r (by simpa [A.rows] using hr)) hv hy)
    · cases hd
  | .tup cs, d, v, hf, hv, hd => by simp [A.toD] at hd
  | .ptr r i j, d, v, hf, hv, hd => by simp [A.toD] at hd
  | .pp c j, d, v, hf, hv, hd => by simp [A.toD] at hd
  | .map r, d, v, hf, hv, hd => by simp [A.toD] at hd
  | .iter r, d, v, hf, hv, hd => by simp [A.toD] at hd
  | .fn f (x :: xs) c, d, v, hf, hv, hd => by simp [A.toD] at hd
  | .fn f [] (x :: xs), d, v, hf, hv, hd => by simp [A.toD] at hd
  | .dead, d, v, hf, hv, hd => by simp [A.toD] at hd
theorem toDs_rd (R : Rel F w0 M0 ι0 s ι a w) (obs : Nat → Option Ob) : ∀ (l : List A) (ds : List D), (∀ r, r ∈ A.rowsL l → ∃ sz es fz, obs r = some (.row sz es fz) ∧ getH s.H r = some (.row sz es es.length)) → A.toDs obs l = some ds →
    l.length = ds.length ∧ ∀ (i : Nat) (u : Value) (x : A) (y : D), l[i]? = some x → ds[i]? = some y → RV w (Im F s.H ι) ι u x → RD w (Im F s.H ι) u y
  | [], ds, hf, hd => by
    simp only [A.toDs, Option.some.injEq] at hd
    subst hd
    exact ⟨rfl, fun i u x y hx => by simp at hx⟩
  | z :: l, ds, hf, hd => by
    simp only [A.toDs] at hd
    split at hd
    · rename_i y ys hy hys
      cases hd
      obtain ⟨g1, g2⟩ := toDs_rd R obs l ys (fun r hr => hf r (by simp [A.rowsL, hr])) hys
      refine ⟨by simp [g1], fun i u x d hx hdd hv => ?_⟩
      cases i with
      | zero =>
        simp at hx hdd
        subst hx; subst hdd
        exact toD_rd R obs z y u (fun r hr => hf r (by simp [A.rowsL, hr])) hv hy
      | succ i =>
        simp at hx hdd
        exact g2 i u x d hx hdd hv
    · cases hd
end

theorem hasT_get {k : Nat} : ∀ (T : Tmps), hasT k T = false → ∀ t, A.has k (getT T t) = false
  | [], _, t => by simp [getT, A.has]
  | (q, x) :: r, h, t => by
    simp only [hasT, Bool.or_eq_false_iff] at h
    rw [getT_cons]
    split
    · exact h.1
    · exact hasT_get r h.2 t
theorem hasH_get {k : Nat} : ∀ (H : Heap), St.free.hasH' k H = false → ∀ r o, getH H r = some o → o.has k = false
  | [], _, r, o, h => by simp [getH] at h
  | (q, x) :: l, h, r, o, ho => by
    simp only [St.free.hasH', Bool.or_eq_false_iff] at h
    rw [getH_cons] at ho
    split at ho
    · rw [ho] at h; exact h.1
    · exact hasH_get l h.2 r o ho
theorem free_spec {k : Nat} (h : s.free k = true) : s.p ≤ k ∧ getH s.H k = none ∧ (∀ t, A.has k (getT s.T t) = false) ∧ ∀ r o, getH s.H r = some o → o.has k = false := by
  simp only [St.free, Bool.and_eq_true, Bool.not_eq_true'] at h
  obtain ⟨⟨⟨h1, h2⟩, h3⟩, h4⟩ := h
  refine ⟨Nat.le_of_ble_eq_true h1, ?_, hasT_get _ h2, hasH_get _ h4⟩
  cases hg : getH s.H k with
  | none => rfl
  | some o => rw [hg] at h3; cases h3

theorem ofVal_has (k : Nat) (v : Value) : A.has k (ofVal v) = false := by
  have f : ∀ v : Value, A.has k (bif flat v then .d (.v v) else .dead) = false := fun v => by cases flat v <;> simp [A.has]
  cases v with
  | agg cs =>
    simp only [ofVal, A.has]
    generalize cs.toList = l
    induction l with
    | nil => simp [A.hasL]
    | cons x xs ih => simp only [List.map_cons, A.hasL, f, ih, Bool.or_self]
  | _ => first | exact f (.bool _) | exact f (.int _ _) | exact f (.float _ _) | exact f (.complex _ _ _) | exact f (.string _) | exact f (.pointer _) | exact f (.slice _ _ _) | exact f (.map _) | exact f (.chan _) | exact f (.func _ _ _) | exact f .nilFunc | exact f (.iface _ _) | exact f .nilIface | exact f (.tuple _)
theorem ev_has {k : Nat} (h : s.free k = true) (x : Operand) : A.has k (s.ev x) = false := by
  cases x with
  | tmp t => exact (free_spec h).2.2.1 t
  | const v => exact ofVal_has k v
  | global g => simp [St.ev, A.has]
  | func f => simp [St.ev, A.has, A.hasL]
theorem cells_has {k : Nat} {x : A} {cs : List A} (h : A.has k x = false) (hc : x.cells? = some cs) : A.hasL k cs = false := by
  have one : [x] = cs → A.hasL k cs = false := fun e => by subst e; simp [A.hasL, h]
  cases x with
  | agg l => simp only [A.cells?, Option.some.injEq] at hc; subst hc; simpa [A.has] using h
  | d x =>
    cases x with
    | agg l =>
      simp only [A.cells?, Option.some.injEq] at hc
      subst hc
      clear h one
      induction l with
      | nil => rfl
      | cons y ys ih => simp only [List.map_cons, A.hasL, A.has, Bool.false_or]; exact ih
    | _ => simp only [A.cells?, Option.some.injEq] at hc; exact one hc
  | tup l => simp [A.cells?] at hc
  | dead => simp [A.cells?] at hc
  | _ => simp only [A.cells?, Option.some.injEq] at hc; exact one hc

theorem hasL_get' {k : Nat} {l : List A} {i : Nat} {x : A} (hx : l[i]? = some x) (h : A.has k x = true) : A.hasL k l = true := by
  cases hh : A.hasL k l with
  | true => rfl
  | false => rw [A.hasL_get hh hx] at h; cases h

/-- A new box of cells. -/
theorem Rel.box (R : Rel F w0 M0 ι0 s ι a w) {k : Nat} (hk : s.free k = true) {vs : Array Value} {cs : List A} (hv : RVs w (Im F s.H ι) ι vs cs) (hh : A.hasL k cs = false) (t : TypeId) :
    ∃ ι', Rel F w0 M0 ι0 { s with H := (k, some (.box cs)) :: s.H } ι' a (w.alloc (.cells vs t)) ∧ (ι' k).b = w.heap.size ∧ (ι' k).off = 0 := by
  obtain ⟨h1, h2, h3, h4⟩ := free_spec hk
  refine ⟨upd ι k ⟨w.heap.size, 0, 0, 0, 0⟩, R.alloc _ k _ _ h2 h1 rfl h3 h4 fun I hc => ?_, by rw [upd_same], by rw [upd_same]⟩
  refine ⟨vs, t, by rw [upd_same]; exact heap_alloc_new _ _, by rw [upd_same], hv.1, fun i v x hi hx => (hv.2 i v x hi hx).carry hc fun r hr => upd_other fun e => ?_⟩
  subst e
  rw [hasL_get' hx hr] at hh
  cases hh

theorem g_box {t : TypeId} {x : Operand} (R : Rel F w0 M0 ι0 s ι a w) (hs : sem P (.box t x) h s.ev (getH s.H) = some e) (ho : All e.obl) (hf : ∀ k, k ∈ e.new → s.free k = true) : Goal P ⟨dst, .box t x, ty, pos, after, guard⟩ F w0 M0 ι0 s a w e := by
  simp only [sem] at hs
  split at hs
  · rename_i cs hcs
    cases hb : cs.all A.one with
    | false => rw [hb] at hs; cases hs
    | true =>
      rw [hb] at hs
      simp only [cond_true, Option.some.injEq] at hs
      subst hs
      have hk := hf h.k (by simp)
      obtain ⟨ι', R', e1, e2⟩ := R.box hk ((ev_rv R x).cells hcs) (cells_has (ev_has hk x) hcs) t
      refine goal_value (v := .pointer (some ⟨w.heap.size, 0, none⟩)) (w' := w.alloc (.cells (a.eval x).cells t)) (by simp [execOp, Instr.box, newVar, newRow]) R' ?_
      have := RV.ptr (w := w.alloc (.cells (a.eval x).cells t)) (I := Im F ((h.k, some (Ob.box cs)) :: s.H) ι') (ι := ι') h.k 0 0
      rw [e1, e2] at this
      simpa using this
  · cases hs
theorem g_alloc {t : TypeId} (R : Rel F w0 M0 ι0 s ι a w) (hs : sem P (.alloc t) h s.ev (getH s.H) = some e) (ho : All e.obl) (hf : ∀ k, k ∈ e.new → s.free k = true) : Goal P ⟨dst, .alloc t, ty, pos, after, guard⟩ F w0 M0 ι0 s a w e := by
  simp only [sem] at hs
  split at hs
  · rename_i cs hcs
    simp only [Option.some.injEq] at hs
    subst hs
    have hk := hf h.k (by simp)
    obtain ⟨i, z, hi, hz, hzr⟩ := zeroA_rv hcs w (Im F s.H ι) ι
    have hh : A.hasL h.k cs = false := by
      unfold zeroA at hcs
      rw [hi] at hcs
      simp only [Option.bind_some, hz] at hcs
      exact cells_has (ofVal_has _ _) hcs
    obtain ⟨ι', R', e1, e2⟩ := R.box hk hzr hh t
    refine goal_value (v := .pointer (some ⟨w.heap.size, 0, none⟩)) (w' := w.alloc (.cells z.cells t)) (by simp [execOp, Instr.alloc, zeroValue, typeInfo, hi, hz, newVar, newRow]) R' ?_
    have := RV.ptr (w := w.alloc (.cells z.cells t)) (I := Im F ((h.k, some (Ob.box cs)) :: s.H) ι') (ι := ι') h.k 0 0
    rw [e1, e2] at this
    simpa using this
  · cases hs
end
end Go.Ab
