/-
  A LAYER OVER THE KIT's 'Code.wp' (part 15): steps in a region; what an operation looks at; two operations that don't meddle with each other.
  Conditions: none. No project text.
-/
import Derived.Test.YtgefhpoejihneaaAb14
namespace Go.Ab
set_option linter.unusedVariables false
set_option linter.unusedSimpArgs false

section
variable {P : Program} {F : Nat → Nat → Prop} {w0 : World} {M0 : Nat → Nat → Prop} {ι0 : Nat → Loc} {s s' : St} {ι : Nat → Loc} {a : Act} {w : World} {h : Hint}

theorem St.take_rel {e : Eff} {v : Value} {dst : Option Nat} (R : Rel F w0 M0 ι0 { s with H := e.up ++ s.H } ι a w) (hv : RV w (Im F (e.up ++ s.H) ι) ι v e.res) (hd : dstOk s.n dst = true) : Rel F w0 M0 ι0 (s.take dst e) ι (a.put dst v) w :=
  R.put hv dst fun d hdd => by subst hdd; simpa [dstOk] using hd

theorem yielded_of (R : Rel F w0 M0 ι0 s ι a w) {ops : Array Oper} {j t : Nat} {b : Bool} (hj : (ops[j]?).bind (·.dst) = some t) (ht : getT s.T t = .d (.v (.bool b))) : yielded ops a.tmps j = some b := by
  have h1 := R.tmp t
  rw [ht] at h1
  have h2 := rv_bool h1
  unfold yielded
  rw [hj]
  simp only [Option.bind_some]
  by_cases hlt : t < a.tmps.size
  · have h3 : a.tmps[t]? = some (a.tmps[t]) := Array.getElem?_eq_getElem hlt
    have h4 : a.tmps.getD t undef = a.tmps[t] := by simp [Array.getD, hlt]
    rw [h3, ← h4, h2]
  · have h4 : a.tmps.getD t undef = undef := by simp [Array.getD, hlt]
    rw [h4] at h2
    cases h2

theorem rv_undef (w : World) (I : Nat → Nat → Prop) (ι : Nat → Loc) : RV w I ι undef (.tup []) := .tup #[] [] rfl fun i v x hv => by simp at hv
theorem yielded_undef (R : Rel F w0 M0 ι0 s ι a w) {ops : Array Oper} {j t : Nat} (hj : (ops[j]?).bind (·.dst) = some t) (ht : getT s.T t = .tup []) : yielded ops a.tmps j = none := by
  have h1 := R.tmp t
  rw [ht] at h1
  have h0 : ∀ u, RV w (Im F s.H ι) ι u (.tup []) → ∃ vs, u = .tuple vs := fun u h => by
    cases h with
    | tup vs cs hn hr => exact ⟨vs, rfl⟩
  obtain ⟨vs, h2⟩ := h0 _ h1
  unfold yielded
  rw [hj]
  simp only [Option.bind_some]
  by_cases hlt : t < a.tmps.size
  · have h3 : a.tmps[t]? = some (a.tmps[t]) := Array.getElem?_eq_getElem hlt
    have h4 : a.tmps.getD t undef = a.tmps[t] := by simp [Array.getD, hlt]
    rw [h3, ← h4, h2]
  · rw [Array.getElem?_eq_none (by omega)]

/-- A STEP IS RIGHT: what must be shown of the operation that comes up. -/
theorem step_wpOp (R : Rel F w0 M0 ι0 s ι a w) {ops : Array Oper} {i : Nat} {o : Oper} {ob : List Prop} (hi : ops[i]? = some o) (hs : stepOp P ops o h s = some (s', ob)) (ho : All ob)
    {K : Act → World → Prop} {Q : Exit → Act → World → Prop} (hK : ∀ ι' a' w', Rel F w0 M0 ι0 s' ι' a' w' → K a' w') : wpOp P ops Q i K a w := by
  unfold wpOp
  simp only [hi]
  unfold stepOp at hs
  cases hd : dstOk s.n o.dst with
  | false => rw [hd] at hs; cases hs
  | true =>
    rw [hd] at hs
    simp only [cond_true] at hs
    have main : ∀ (e : Eff), semV P o.op h s.ev (getH s.H) = some e → All e.obl → e.new.all s.free = true → s' = s.take o.dst e → o.wp P a w K Q := by
      intro e he hoe hfe hse
      have hg := semV_goal R he hoe (fun k hk => List.all_eq_true.1 hfe k hk)
      refine hg K Q (fun v w' ι' R' hv => hK ι' _ w' ?_)
      rw [hse]
      exact St.take_rel R' hv hd
    split at hs
    · rename_i hg
      have hw : Region.wanted o (yielded ops a.tmps) = true := by simp [Region.wanted, hg]
      rw [if_pos hw]
      split at hs
      · rename_i e he
        cases hfe : e.new.all s.free with
        | false => rw [hfe] at hs; cases hs
        | true =>
          rw [hfe] at hs
          simp only [cond_true, Option.some.injEq, Prod.mk.injEq] at hs
          obtain ⟨rfl, rfl⟩ := hs
          exact .inl (main e he ho hfe rfl)
      · cases hs
    · rename_i j want hg
      split at hs
      · rename_i t hjt
        split at hs
        · rename_i b hb
          have hy := yielded_of R hjt hb
          cases hr : h.run with
          | true =>
            rw [hr] at hs
            simp only [cond_true] at hs
            split at hs
            · rename_i e he
              cases hfe : e.new.all s.free with
              | false => rw [hfe] at hs; cases hs
              | true =>
                rw [hfe] at hs
                simp only [cond_true, Option.some.injEq, Prod.mk.injEq] at hs
                obtain ⟨rfl, rfl⟩ := hs
                have hbw : b = want := ho.1
                have hw : Region.wanted o (yielded ops a.tmps) = true := by simp [Region.wanted, hg, hy, hbw]
                rw [if_pos hw]
                exact .inl (main e he ho.2 hfe rfl)
            · cases hs
          | false =>
            rw [hr] at hs
            simp only [cond_false, Option.some.injEq, Prod.mk.injEq] at hs
            obtain ⟨rfl, rfl⟩ := hs
            have hbw : b = !want := ho.1
            have hw : ¬ Region.wanted o (yielded ops a.tmps) = true := by simp [Region.wanted, hg, hy, hbw]
            rw [if_neg hw]
            exact hK ι _ w (R.put (rv_undef _ _ _) o.dst fun d hdd => by rw [hdd] at hd; simpa [dstOk] using hd)
        · rename_i hb
          cases hr : h.run with
          | true => rw [hr] at hs; cases hs
          | false =>
            rw [hr] at hs
            simp only [cond_false, Option.some.injEq, Prod.mk.injEq] at hs
            obtain ⟨rfl, rfl⟩ := hs
            have hw : ¬ Region.wanted o (yielded ops a.tmps) = true := by simp [Region.wanted, hg, yielded_undef R hjt hb]
            rw [if_neg hw]
            exact hK ι _ w (R.put (rv_undef _ _ _) o.dst fun d hdd => by rw [hdd] at hd; simpa [dstOk] using hd)
        · cases hs
      · cases hs

theorem evalR_ops (ops : Array Oper) (hs : List (Nat × Hint)) {Q : Exit → Act → World → Prop} : ∀ (l : List Oper) (i : Nat) (s s' : St) (ob : List Prop) (ι : Nat → Loc) (a : Act) (w : World),
    (∀ k o, l[k]? = some o → ops[i + k]? = some o) → evalR P ops hs i l s = some (s', ob) → All ob → Rel F w0 M0 ι0 s ι a w →
    (∀ ι' a' w', Rel F w0 M0 ι0 s' ι' a' w' → Q .normal a' w') → wpOps P ops Q (List.range' i l.length) a w
  | [], i, s, s', ob, ι, a, w, hl, he, ho, R, hk => by
    simp only [evalR, Option.some.injEq, Prod.mk.injEq] at he
    obtain ⟨rfl, rfl⟩ := he
    simpa [wpOps] using hk ι a w R
  | o :: l, i, s, s', ob, ι, a, w, hl, he, ho, R, hk => by
    simp only [evalR] at he
    split at he
    · rename_i s1 p h1
      split at he
      · rename_i s2 q h2
        simp only [Option.some.injEq, Prod.mk.injEq] at he
        obtain ⟨rfl, rfl⟩ := he
        obtain ⟨ho1, ho2⟩ := All.append ho
        rw [List.length_cons, List.range'_succ, wpOps_cons]
        refine step_wpOp R (by simpa using hl 0 o rfl) h1 ho1 (fun ι' a' w' R' => ?_)
        exact evalR_ops ops hs l (i + 1) s1 s2 q ι' a' w' (fun k o' hk' => by rw [show i + 1 + k = i + (k + 1) by omega]; exact hl (k + 1) o' (by simpa using hk')) h2 ho2 R' hk
      · cases he
    · cases he

theorem runs_region {id : Nat} {ops : Array Oper} {hs : List (Nat × Hint)} {ob : List Prop} (he : evalR P ops hs 0 ops.toList s = some (s', ob)) (ho : All ob) : Runs P (.region id ops false) s .normal s' := by
  intro F w0 M0 ι0 ι a w R
  refine wp_region ?_
  have := evalR_ops (F := F) (w0 := w0) (M0 := M0) (ι0 := ι0) ops hs (Q := fun e' a' w' => e' = .normal ∧ ∃ ι', Rel F w0 M0 ι0 s' ι' a' w') ops.toList 0 s s' ob ι a w (fun k o hk => by simpa using hk) he ho R (fun ι' a' w' R' => ⟨rfl, ι', R'⟩)
  simpa [List.range_eq_range'] using this

theorem getT_keep (ts : List Nat) (T : Tmps) (t : Nat) : getT (ts.map fun t => (t, getT T t)) t = getT T t ∨ getT (ts.map fun t => (t, getT T t)) t = .dead := by
  induction ts with
  | nil => exact .inr rfl
  | cons x xs ih =>
    rw [List.map_cons, getT_cons]
    by_cases e : x = t
    · rw [if_pos e, e]; exact .inl rfl
    · rw [if_neg e]; exact ih
theorem getH_keep (rs : List Nat) (H : Heap) (r : Nat) : getH (rs.map fun r => (r, getH H r)) r = getH H r ∨ getH (rs.map fun r => (r, getH H r)) r = none := by
  induction rs with
  | nil => exact .inr rfl
  | cons x xs ih =>
    rw [List.map_cons, getH_cons]
    by_cases e : x = r
    · rw [if_pos e, e]; exact .inl rfl
    · rw [if_neg e]; exact ih
theorem Rel.keep (R : Rel F w0 M0 ι0 s ι a w) (ts rs : List Nat) : Rel F w0 M0 ι0 (Ab.keep ts rs s) ι a w :=
  R.weak rfl rfl (fun t => getT_keep ts s.T t) (fun r => getH_keep rs s.H r)

theorem Runs.weaken {c : Code} {e : Exit} {s1 s2 s3 : St} (h : Runs P c s1 e s2) (h1 : ∀ F w0 M0 ι0 ι a w, Rel F w0 M0 ι0 s ι a w → ∃ ι', Rel F w0 M0 ι0 s1 ι' a w) (h2 : ∀ F w0 M0 ι0 ι a w, Rel F w0 M0 ι0 s2 ι a w → ∃ ι', Rel F w0 M0 ι0 s3 ι' a w) : Runs P c s e s3 :=
  fun F w0 M0 ι0 ι a w R => let ⟨ι1, R1⟩ := h1 _ _ _ _ _ _ _ R
    wp_mono (h F w0 M0 ι0 ι1 a w R1) fun e' a' w' ⟨he, ι', R'⟩ => ⟨he, h2 _ _ _ _ _ _ _ R'⟩

theorem runs_cond {c : Operand} {x y : Code} {t b : Bool} {e : Exit} {s2 : St} (hc : s.ev c = .d (.v (.bool t))) (hb : t = b) (h : Runs P (bif b then x else y) s e s2) : Runs P (.cond c x y) s e s2 := by
  intro F w0 M0 ι0 ι a w R
  have h1 := ev_rv R c
  rw [hc] at h1
  have h2 := rv_bool h1
  refine wp_cond h2 ?_
  have := h F w0 M0 ι0 ι a w R
  subst hb
  cases t <;> exact this

/-- A value under other numbers. -/
theorem RV.ren {w : World} {I J : Nat → Nat → Prop} {ι ι' : Nat → Loc} {g : Nat → Nat} (hc : Carry w I w J) {v : Value} {x : A} (hv : RV w I ι v x) : (∀ r, A.has r x = true → ι' (g r) = ι r) → RV w J ι' v (A.back g x) := by
  induction hv with
  | d h => intro _; exact .d (h.carry hc)
  | agg vs cs hn hr ih =>
    intro hb
    refine .agg vs _ (by rw [backs_len, hn]) fun i u z hu hz => ?_
    rw [backs_get, Option.map_eq_some_iff] at hz
    obtain ⟨y, hy, rfl⟩ := hz
    exact ih i u y hu hy fun r hr => hb r (by simpa [A.has] using hasL_get' hy hr)
  | tup vs cs hn hr ih =>
    intro hb
    refine .tup vs _ (by rw [backs_len, hn]) fun i u z hu hz => ?_
    rw [backs_get, Option.map_eq_some_iff] at hz
    obtain ⟨y, hy, rfl⟩ := hz
    exact ih i u y hu hy fun r hr => hb r (by simpa [A.has] using hasL_get' hy hr)
  | ptr r i j =>
    intro hb
    have := RV.ptr (w := w) (I := J) (ι := ι') (g r) i j
    rw [hb r (by simp [A.has])] at this
    exact this
  | pp cs j b off f hm hr => intro _; exact .pp cs j b off f (fun i d h => hc _ _ _ (hm i d h).1 (hm i d h).2) fun i d h => (hr i d h).carry hc
  | msl r lo len ln cap c hl hle hk hn ht =>
    intro hb
    have e := hb r (by simp [A.has])
    have := RV.msl (w := w) (I := J) (ι := ι') (g r) lo len ln cap c (by rw [e]; exact hl) hle hk (by rw [e]; exact hn) (by rw [e]; exact ht)
    rw [e] at this
    exact this
  | mslz r lo p ln cap hl hk =>
    intro hb
    have e := hb r (by simp [A.has])
    exact .mslz (g r) lo p ln cap (by rw [e]; exact hl) hk
  | map r =>
    intro hb
    have := RV.map (w := w) (I := J) (ι := ι') (g r)
    rw [hb r (by simp [A.has])] at this
    exact this
  | iter r =>
    intro hb
    have := RV.iter (w := w) (I := J) (ι := ι') (g r)
    rw [hb r (by simp [A.has])] at this
    exact this
  | fn f xs ys p q hn hm hr hs ih1 ih2 =>
    intro hb
    refine .fn f xs ys _ _ (by rw [backs_len, hn]) (by rw [backs_len, hm]) (fun i u z hu hz => ?_) (fun i u z hu hz => ?_)
    · rw [backs_get, Option.map_eq_some_iff] at hz
      obtain ⟨y, hy, rfl⟩ := hz
      exact ih1 i u y hu hy fun r hr => hb r (by simp [A.has, hasL_get' hy hr])
    · rw [backs_get, Option.map_eq_some_iff] at hz
      obtain ⟨y, hy, rfl⟩ := hz
      exact ih2 i u y hu hy fun r hr => hb r (by simp [A.has, hasL_get' hy hr])
  | iface t v x h ih => intro hb; exact .iface t v _ (ih fun r hr => hb r (by simpa [A.has] using hr))
  | dead v => intro _; exact .dead v

theorem getT_map (f : A → A) (hf : f .dead = .dead) : ∀ (T : Tmps) (t : Nat), getT (T.map fun x => (x.1, f x.2)) t = f (getT T t)
  | [], t => by simp [getT, hf]
  | (k, x) :: T, t => by
    rw [List.map_cons, getT_cons, getT_cons]
    by_cases e : k = t
    · rw [if_pos e, if_pos e]
    · rw [if_neg e, if_neg e]; exact getT_map f hf T t

def reno (k k' : Nat) : Nat → Nat := fun r => bif Nat.beq r k then k' else r
theorem reno_same (k k' : Nat) : reno k k' k = k' := by simp [reno, Nat.beq_refl]
theorem reno_other {k k' r : Nat} (h : r ≠ k) : reno k k' r = r := by simp only [reno, show Nat.beq r k = false from Bool.eq_false_iff.2 fun x => h (Nat.eq_of_beq_eq_true x), cond_false]
def opOb (g : Nat → Nat) : Option Ob → Option Ob
  | some o => some (backOb g o)
  | none => none

theorem mv_get1 {g : Nat → Nat} {k k' : Nat} (hg : g = reno k k') : ∀ (H : Heap) (r : Nat) (o : Ob), r ≠ k' → getH (H.map fun x => (g x.1, opOb g x.2)) r = some o → r ≠ k ∧ ∃ o0, getH H r = some o0 ∧ o = backOb g o0
  | [], r, o, hk, h => by simp [getH] at h
  | (q, x) :: H, r, o, hk, h => by
    rw [List.map_cons, getH_cons] at h
    rw [getH_cons]
    by_cases e : q = k
    · subst e
      rw [hg, reno_same, if_neg (Ne.symm hk), ← hg] at h
      obtain ⟨h1, h2⟩ := mv_get1 hg H r o hk h
      exact ⟨h1, by rw [if_neg (Ne.symm h1)]; exact h2⟩
    · rw [show g q = q by rw [hg, reno_other e]] at h
      by_cases e2 : q = r
      · rw [if_pos e2] at h ⊢
        refine ⟨fun x => e (e2.trans x), ?_⟩
        cases x with
        | none => cases h
        | some o0 => exact ⟨o0, rfl, by simpa [opOb] using h.symm⟩
      · rw [if_neg e2] at h ⊢
        exact mv_get1 hg H r o hk h
theorem mv_get2 {g : Nat → Nat} {k k' : Nat} (hg : g = reno k k') : ∀ (H : Heap) (o : Ob), getH H k' = none → getH (H.map fun x => (g x.1, opOb g x.2)) k' = some o → ∃ o0, getH H k = some o0 ∧ o = backOb g o0
  | [], o, hk, h => by simp [getH] at h
  | (q, x) :: H, o, hk, h => by
    rw [List.map_cons, getH_cons] at h
    rw [getH_cons] at hk ⊢
    by_cases e : q = k
    · subst e
      rw [hg, reno_same, if_pos rfl, ← hg] at h
      rw [if_pos rfl]
      cases x with
      | none => cases h
      | some o0 => exact ⟨o0, rfl, by simpa [opOb] using h.symm⟩
    · rw [show g q = q by rw [hg, reno_other e]] at h
      rw [if_neg e]
      by_cases e2 : q = k'
      · rw [if_pos e2] at h hk
        subst hk
        cases h
      · rw [if_neg e2] at h hk
        exact mv_get2 hg H o hk h

theorem Rel.mv (R : Rel F w0 M0 ι0 s ι a w) {k k' : Nat} (hf : s.free k' = true) (hk : s.p ≤ k) (hkk : k ≠ k') : ∃ ι', Rel F w0 M0 ι0 (s.mv k k') ι' a w := by
  obtain ⟨f1, f2, f3, f4⟩ := free_spec hf
  · have hg : (fun r => bif Nat.beq r k then k' else r) = reno k k' := rfl
    let ι' := upd ι k' (ι k)
    have hι : ∀ r, r ≠ k' → ι' (reno k k' r) = ι r := fun r hr => by
      by_cases e : r = k
      · subst e; rw [reno_same]; exact upd_same _ _ _
      · rw [reno_other e]; exact upd_other hr
    have hH : (s.mv k k').H = s.H.map fun x => (reno k k' x.1, opOb (reno k k') x.2) := by
      simp only [St.mv, hg]
      exact List.map_congr_left fun x _ => by cases x.2 <;> rfl
    have get : ∀ r o, getH (s.mv k k').H r = some o → ∃ r0 o0, r0 ≠ k' ∧ getH s.H r0 = some o0 ∧ o = backOb (reno k k') o0 ∧ r = reno k k' r0 := fun r o h => by
      rw [hH] at h
      by_cases e : r = k'
      · subst e
        obtain ⟨o0, h1, h2⟩ := mv_get2 rfl s.H o f2 h
        exact ⟨k, o0, hkk, h1, h2, (reno_same _ _).symm⟩
      · obtain ⟨h0, o0, h1, h2⟩ := mv_get1 rfl s.H r o e h
        exact ⟨r, o0, e, h1, h2, (reno_other h0).symm⟩
    have from' : ∀ (o0 : Ob) (L : Loc), (backOb (reno k k') o0).from L = o0.from L := fun o0 L => by cases o0 <;> rfl
    have hm : ∀ b o, Mut (s.mv k k').H ι' b o → Mut s.H ι b o := by
      rintro b o ⟨r, ob, h1, h2, h3⟩
      obtain ⟨r0, o0, g0, g1, rfl, rfl⟩ := get r ob h1
      rw [hι r0 g0] at h2 h3
      exact ⟨r0, o0, g1, h2, by rw [← from' o0]; exact h3⟩
    have hc : Carry w (Im F s.H ι) w (Im F (s.mv k k').H ι') := Carry.weaken fun b o h => ⟨fun hM => h.1 (hm b o hM), h.2⟩
    have hv : ∀ (v : Value) (x : A), A.has k' x = false → RV w (Im F s.H ι) ι v x → RV w (Im F (s.mv k k').H ι') ι' v (A.back (reno k k') x) := fun v x hx h =>
      h.ren hc fun r hr => hι r fun e => by rw [e, hx] at hr; cases hr
    refine ⟨ι', R.size, R.defers, fun t => ?_, fun r o h => ?_, fun r r' o o' h h' hb => ?_, R.evo, fun b o h => R.own b o (hm b o h), fun q hq => ?_, R.foreign, fun r o h => ?_⟩
    · have e : getT (s.mv k k').T t = A.back (reno k k') (getT s.T t) := by
        show getT (s.T.map fun x => (x.1, A.back (reno k k') x.2)) t = _
        exact getT_map _ rfl s.T t
      rw [e]
      exact hv _ _ (f3 t) (R.tmp t)
    · obtain ⟨r0, o0, g0, g1, rfl, rfl⟩ := get r o h
      obtain ⟨h2, h3⟩ := R.obj r0 o0 g1
      rw [hι r0 g0]
      refine ⟨h2, ?_⟩
      have hno := f4 r0 o0 g1
      cases o0 with
      | box cs =>
        obtain ⟨c, ty, k1, k2, k3, k4⟩ := h3
        refine ⟨c, ty, by rw [hι r0 g0]; exact k1, by rw [hι r0 g0]; exact k2, by rw [backs_len]; exact k3, fun i v x hv' hx => ?_⟩
        rw [backs_get, Option.map_eq_some_iff] at hx
        obtain ⟨y, hy, rfl⟩ := hx
        exact hv v y (A.hasL_get (by simpa [Ob.has] using hno) hy) (k4 i v y hv' hy)
      | row sz es fz =>
        obtain ⟨c, ty, k1, k2, k3, k4, k5, k6, k7, k8⟩ := h3
        simp only [backOb, RO]
        rw [hι r0 g0]
        exact ⟨c, ty, k1, k2, k3, k4, k5, k6, k7, fun i j c' d v a b e => (k8 i j c' d v a b e).carry hc⟩
      | map es =>
        obtain ⟨m, n, k1, k2, k3⟩ := h3
        simp only [backOb, RO]
        rw [hι r0 g0]
        exact ⟨m, n, k1, k2, fun i e x a b => ⟨(k3 i e x a b).1, (k3 i e x a b).2.carry hc⟩⟩
      | str t pos => simp only [backOb, RO]; rw [hι r0 g0]; exact h3
    · obtain ⟨r0, o0, g0, g1, rfl, rfl⟩ := get r o h
      obtain ⟨r1, o1, g2, g3, rfl, rfl⟩ := get r' o' h'
      rw [hι r0 g0, hι r1 g2] at hb
      rw [R.apart r0 r1 o0 o1 g1 g3 hb]
    · rw [show ι' q = ι q from upd_other (by
        have : q < s.p := hq
        omega)]
      exact R.pin q hq
    · obtain ⟨r0, o0, g0, g1, rfl, rfl⟩ := get r o h
      rw [hι r0 g0]
      exact R.apartF r0 o0 g1

theorem deNils_get : ∀ (l : List D) (i : Nat), (D.deNils l)[i]? = (l[i]?).map D.deNil
  | [], i => by simp [D.deNils]
  | x :: l, 0 => by simp [D.deNils]
  | x :: l, i + 1 => by simp [D.deNils, deNils_get l i]
theorem deNils_len : ∀ (l : List D), (D.deNils l).length = l.length
  | [] => rfl
  | x :: l => by simp [D.deNils, deNils_len l]
theorem AdeNils_get : ∀ (l : List A) (i : Nat), (A.deNils l)[i]? = (l[i]?).map A.deNil
  | [], i => by simp [A.deNils]
  | x :: l, 0 => by simp [A.deNils]
  | x :: l, i + 1 => by simp [A.deNils, AdeNils_get l i]
theorem AdeNils_len : ∀ (l : List A), (A.deNils l).length = l.length
  | [] => rfl
  | x :: l => by simp [A.deNils, AdeNils_len l]
theorem RD.deNil {w : World} {I : Nat → Nat → Prop} {v : Value} {d : D} (h : RD w I v d) : RD w I v d.deNil := by
  induction h with
  | v x h =>
    simp only [D.deNil]
    split
    · exact .emp none 0
    · exact .v x h
  | emp a cap => exact .emp a cap
  | sl b off sz cap es f hc hs hm hr _ => exact .sl b off sz cap es f hc hs hm hr
  | agg vs cs hn hr ih =>
    simp only [D.deNil]
    refine .agg vs _ (by rw [deNils_len, hn]) fun i v d hv hd => ?_
    rw [deNils_get, Option.map_eq_some_iff] at hd
    obtain ⟨e, he, rfl⟩ := hd
    exact ih i v e hv he
  | iface t v x h _ => exact .iface t v x h
theorem RV.deNil {w : World} {I : Nat → Nat → Prop} {ι : Nat → Loc} {v : Value} {a : A} (h : RV w I ι v a) : RV w I ι v a.deNil := by
  induction h with
  | d h => exact .d h.deNil
  | agg vs cs hn hr ih =>
    simp only [A.deNil]
    refine .agg vs _ (by rw [AdeNils_len, hn]) fun i v d hv hd => ?_
    rw [AdeNils_get, Option.map_eq_some_iff] at hd
    obtain ⟨e, he, rfl⟩ := hd
    exact ih i v e hv he
  | tup vs cs hn hr ih =>
    simp only [A.deNil]
    refine .tup vs _ (by rw [AdeNils_len, hn]) fun i v d hv hd => ?_
    rw [AdeNils_get, Option.map_eq_some_iff] at hd
    obtain ⟨e, he, rfl⟩ := hd
    exact ih i v e hv he
  | ptr r i j => exact .ptr r i j
  | pp cs j b off f hm hr => exact .pp cs j b off f hm hr
  | msl r lo len ln cap c hl hc hk hn ht => exact .msl r lo len ln cap c hl hc hk hn ht
  | mslz r lo a ln cap hl hk => exact .mslz r lo a ln cap hl hk
  | map r => exact .map r
  | iter r => exact .iter r
  | fn f xs ys first cap hn hm hr hs _ _ => exact .fn f xs ys first cap hn hm hr hs
  | iface t v x h _ => exact .iface t v x h
  | dead v => exact .dead v

theorem post_rel : ∀ (hs : List PH) (s : St) (s' : St) (hs' : List PH), post hs s = some (s', hs') → ∀ F w0 M0 ι0 ι a w, Rel F w0 M0 ι0 s ι a w → ∃ ι', Rel F w0 M0 ι0 s' ι' a w
  | [], s, s', hs', h, F, w0, M0, ι0, ι, a, w, R => by simp only [post, Option.some.injEq, Prod.mk.injEq] at h; rw [← h.1]; exact ⟨ι, R⟩
  | .k ts rs :: hs, s, s', hs', h, F, w0, M0, ι0, ι, a, w, R => by
    simp only [post] at h
    exact post_rel hs _ s' hs' h F w0 M0 ι0 ι a w (R.keep ts rs)
  | .z t :: hs, s, s', hs', h, F, w0, M0, ι0, ι, a, w, R => by
    simp only [post] at h
    split at h
    · rename_i d fz hd hfz
      cases hb : Nat.blt t s.n with
      | false => rw [hb] at h; cases h
      | true =>
        rw [hb] at h
        simp only [cond_true] at h
        obtain ⟨R1, hF, hA, hN⟩ := frz_rel R _ _ hfz
        have hd' := toD_rd R1 (getH s.H) _ d _ hA (R1.tmp t) hd
        have hlt : t < a.tmps.size := by rw [R.size]; simpa using hb
        have R2 := R1.put (.d hd') (some t) (fun q hq => by cases hq; rw [← R1.size]; exact hlt)
        have e : a.put (some t) (a.tmps.getD t undef) = a := by
          cases a with
          | mk tmps defers =>
            simp only [Act.put, Act.mk.injEq, and_true]
            apply Array.ext
            · simp
            · intro i h1 h2
              rw [Array.getElem_setIfInBounds]
              split
              · rename_i hti
                subst hti
                simp [Array.getD, h2]
              · rfl
        rw [e] at R2
        exact post_rel hs _ s' hs' h F w0 M0 ι0 ι a w R2
    · cases h
  | .n t :: hs, s, s', hs', h, F, w0, M0, ι0, ι, a, w, R => by
    simp only [post] at h
    cases hb : Nat.blt t s.n with
    | false => rw [hb] at h; cases h
    | true =>
      rw [hb] at h
      simp only [cond_true] at h
      have hlt : t < a.tmps.size := by rw [R.size]; simpa using hb
      have R2 := R.put (x := A.deNil (getT s.T t)) (v := a.tmps.getD t undef) (R.tmp t).deNil (some t) (fun q hq => by cases hq; rw [← R.size]; exact hlt)
      have e : a.put (some t) (a.tmps.getD t undef) = a := by
        cases a with
        | mk tmps defers =>
          simp only [Act.put, Act.mk.injEq, and_true]
          apply Array.ext
          · simp
          · intro i h1 h2
            rw [Array.getElem_setIfInBounds]
            split
            · rename_i hti
              subst hti
              simp [Array.getD, h2]
            · rfl
      rw [e] at R2
      exact post_rel hs _ s' hs' h F w0 M0 ι0 ι a w R2
  | .b r :: hs, s, s', hs', h, F, w0, M0, ι0, ι, a, w, R => by
    simp only [post] at h
    split at h
    · rename_i cs hr
      split at h
      · rename_i ds fz hds hfz
        obtain ⟨R1, hF, hA, hN⟩ := frz_rel R _ _ hfz
        have hnr : r ∉ A.rowsL (A.deNils cs) := fun hm => by
          obtain ⟨sz, es, z, h1, _⟩ := hA r hm
          rw [hr] at h1
          cases h1
        have hr1 : getH (fz ++ s.H) r = some (.box cs) := by rw [hN r hnr]; exact hr
        obtain ⟨hn, hrd⟩ := toDs_rd R1 (getH s.H) (A.deNils cs) ds hA hds
        obtain ⟨_, c, ty, k1, k2, k3, k4⟩ := R1.obj r _ hr1
        have R2 := R1.write hr1 (ob' := .box (ds.map .d)) (w' := w) rfl rfl rfl rfl (fun _ _ => rfl) (fun _ _ h _ => h) (Nat.le_refl _) fun I hc => by
          refine ⟨c, ty, k1, k2, by rw [List.length_map, ← hn, AdeNils_len]; exact k3, fun i v x hv hx => ?_⟩
          rw [List.getElem?_map, Option.map_eq_some_iff] at hx
          obtain ⟨y, hy, rfl⟩ := hx
          have hi : i < cs.length := by
            have := (List.getElem?_eq_some_iff.1 hy).1
            rw [← hn, AdeNils_len] at this
            exact this
          have e1 : (A.deNils cs)[i]? = some (cs[i].deNil) := by rw [AdeNils_get, List.getElem?_eq_getElem hi]; rfl
          exact .d ((hrd i v _ y e1 hy (k4 i v _ hv (List.getElem?_eq_getElem hi)).deNil).carry hc)
        exact post_rel hs _ s' hs' h F w0 M0 ι0 ι a w R2
      · cases h
    · cases h
  | .m k k' :: hs, s, s', hs', h, F, w0, M0, ι0, ι, a, w, R => by
    simp only [post] at h
    cases hb : s.free k' && Nat.ble s.p k && !Nat.beq k k' with
    | false => rw [hb] at h; cases h
    | true =>
      rw [hb] at h
      simp only [cond_true] at h
      simp only [Bool.and_eq_true, Nat.ble_eq] at hb
      obtain ⟨ι', R'⟩ := R.mv hb.1.1 hb.1.2 (fun e => by rw [e, Nat.beq_refl] at hb; simp at hb)
      exact post_rel hs _ s' hs' h F w0 M0 ι0 ι' a w R'
  | .r l :: hs, s, s', hs', h, F, w0, M0, ι0, ι, a, w, R => by simp only [post, Option.some.injEq, Prod.mk.injEq] at h; rw [← h.1]; exact ⟨ι, R⟩
  | .br l :: hs, s, s', hs', h, F, w0, M0, ι0, ι, a, w, R => by simp only [post, Option.some.injEq, Prod.mk.injEq] at h; rw [← h.1]; exact ⟨ι, R⟩
  | .lp e t :: hs, s, s', hs', h, F, w0, M0, ι0, ι, a, w, R => by simp only [post, Option.some.injEq, Prod.mk.injEq] at h; rw [← h.1]; exact ⟨ι, R⟩
end
end Go.Ab
