/-
  A LAYER OVER THE KIT's 'Code.wp' (part 24): what a tree asks of operations is enough (appends, slices; all).
  Conditions: none. No project text.
-/
import Derived.Test.YtgefhpoejihneaaAb23
namespace Go.Ab
set_option linter.unusedVariables false
set_option linter.unusedSimpArgs false

section
variable {R : Type} {r : R} {P : Program} {h2 : H2} {ρ : Operand → A} {obs : Nat → Option Ob} {k : Hint → Tree R}

theorem fit_of {α : Type} {c : α → List D} {m : List α} {n k : Nat} (fit : ∀ x, (c x).length = n ∧ (c x).all D.one = true) (h : n = k) : Fit k (m.map c) := fun d hd => by
  obtain ⟨x, hx, rfl⟩ := List.mem_map.1 hd
  exact ⟨(fit x).1.trans h, (fit x).2⟩

theorem appT_ok {c : Call} {t t2 : TypeId} {x y : Operand} {nx : Nat} (hc : c.callee = .builtin .append) (hty : c.argTypes.toList = [t, t2]) (ha : c.args.toList.map ρ = [ρ x, ρ y])
    (h : G (appT P h2 t (ρ x) (ρ y) obs nx k) r) : ∃ h, G (k h) r ∧ Enough P (.call c) ρ obs h := by
  have red : ∀ (h : Hint) (e : Eff), sem P (.call c) h ρ obs = some e → semAppend P t h obs (ρ x) (ρ y) = some e := fun h e he => by
    simp only [sem, hc, hty, ha] at he
    split at he
    · exact he
    · cases he
  unfold appT at h
  split at h
  · rename_i el hu
    split at h
    · rename_i i ys α cc l m nn fit hi hs
      obtain ⟨g1, h⟩ := g_chk h
      obtain ⟨g2, h⟩ := g_chk h
      have g2 := ble_of g2
      split at h
      · rename_i hx
        obtain ⟨g3, h⟩ := g_chk h
        obtain ⟨g4, h⟩ := g_guard h
        obtain ⟨g5, h⟩ := g_chk h
        have g3 := ble_of g3
        have g4 := Nat.le_trans (Nat.le_add_left _ _) (of_decide_eq_true g4)
        refine ⟨_, h, enough_of rfl fun e he => ?_⟩
        have he := red _ _ he
        simp only [semAppend, hu, hi, hs, hx] at he
        split at he
        · rename_i i' z ys' q1 q2 q3
          cases q1; cases q3
          cases hb : (Nat.beq z.length i.size && Nat.ble 1 i.bytes) with
          | false => rw [hb] at he; cases he
          | true =>
            rw [hb] at he
            simp only [cond_true, Option.some.injEq] at he
            subst he
            subst g1
            exact ⟨by simpa using (show 0 < m.length from g3), Nat.le_trans (Nat.mul_le_mul (by simpa using g4) g2) (by decide), fit_of fit g5, rfl, trivial⟩
        · cases he
      · rename_i q lo ln cap hx
        split at h
        · rename_i sz es fz hob
          obtain ⟨g3, h⟩ := g_chk h
          obtain ⟨g4, h⟩ := g_guard h
          obtain ⟨g5, h⟩ := g_chk h
          obtain ⟨g6, h⟩ := g_chk h
          have g4 := of_decide_eq_true g4
          refine ⟨_, h, enough_of rfl fun e he => ?_⟩
          have he := red _ _ he
          simp only [semAppend, hu, hi, hs, hx, hob] at he
          split at he
          · rename_i i' z ys' q1 q2 q3
            cases q1; cases q3
            cases hb : (Nat.beq z.length i.size && Nat.ble 1 i.bytes) with
            | false => rw [hb] at he; cases he
            | true =>
              rw [hb] at he
              simp only [cond_true] at he
              cases hb2 : Nat.beq sz i.size with
              | false => rw [hb2] at he; cases he
              | true =>
                rw [hb2] at he
                simp only [cond_true, Option.some.injEq] at he
                subst he
                have e1 : (sub lo ln es).length = l.length := by rw [g3]; simp
                have e2 : lenOf lo ln es.length = lnOr ln l.length := by
                  rw [lenOf_eq]
                  cases ln with
                  | some q => rfl
                  | none =>
                    rw [← e1]
                    unfold sub
                    cases lo <;> simp [lnOr]
                refine ⟨?_, ?_⟩
                · rw [e2, g1, List.length_map]
                  exact Nat.le_trans (Nat.mul_le_mul g4 g2) (by decide)
                · cases ln with
                  | none => exact ⟨by rw [g1]; exact fit_of fit g5, by simp [g1, g3], trivial⟩
                  | some q => exact ⟨by rw [g1]; exact fit_of fit g5, ble_of g6, by simp [g1, g3], trivial⟩
          · cases he
        · exact (g_fail h).elim
      · exact (g_fail h).elim
    · exact (g_fail h).elim
  · exact (g_fail h).elim

theorem bd_ok {a : Option A} {i : IX} {t : Tree R} (h : G (bdT a i t) r) : G t r ∧ ∀ ob, bnd a (numI a i) = some ob → All ob := by
  unfold bdT at h
  split at h
  · rename_i kd n
    obtain ⟨h1, h⟩ := g_ix h
    refine ⟨h, fun ob hb => ?_⟩
    simp only [bnd, Option.some.injEq] at hb
    subst hb
    exact ⟨h1, trivial⟩
  · rename_i hn
    refine ⟨h, fun ob hb => ?_⟩
    unfold bnd at hb
    split at hb
    · cases hb; trivial
    · exact (hn _ _ rfl).elim
    · cases hb
theorem all_app {a b : List Prop} (h : All a) (k : All b) : All (a ++ b) := by
  induction a with
  | nil => exact k
  | cons x xs ih => exact ⟨h.1, ih h.2⟩
theorem isSome_map {α β : Type} {f : α → β} {x : Option α} : (x.map f).isSome = x.isSome := by cases x <;> rfl

theorem sliceT_ok {t : TypeId} {x : Operand} {l hh m : Option Operand} (h : G (sliceT P h2 t (ρ x) (l.map ρ) (hh.map ρ) (m.map ρ) obs k) r) : ∃ h, G (k h) r ∧ Enough P (.slice t x l hh m) ρ obs h := by
  unfold sliceT at h
  split at h
  · rename_i el es hu hx
    split at h
    · rename_i α c y n' fit i j n hsz
      obtain ⟨h, b1⟩ := bd_ok h
      obtain ⟨h, b2⟩ := bd_ok h
      obtain ⟨g1, h⟩ := g_chk h
      obtain ⟨g2, h⟩ := g_guard h
      obtain ⟨g3, h⟩ := g_guard h
      obtain ⟨g4, h⟩ := g_chk h
      have g2 := of_decide_eq_true g2
      have g3 := of_decide_eq_true g3
      refine ⟨_, h, enough_val rfl fun e he => ?_⟩
      simp only [sem, semSlice] at he
      split at he
      · rename_i ol oh om e1 e2 e3
        simp only [hu, hx, hsz] at he
        cases hm : (m.map ρ).isSome with
        | true => rw [hm] at he; cases he
        | false =>
          rw [hm] at he
          simp only [cond_false, Option.some.injEq] at he
          subst he
          subst g1
          refine ⟨?_, all_app (all_app (b1 _ e1) (b2 _ e2)) ⟨by simpa using g2, by simpa using g3, fun d hd => ?_, trivial⟩⟩
          · have key : ∀ (a : Nat) (b : Option Nat), sub a b (y.map c) = (match b with | some q => (y.drop a).take q | none => y.drop a).map c := fun a b => by
              cases b with
              | none => cases a <;> simp [sub]
              | some q => simp [sub, List.map_take, List.map_drop]
            rw [key]
            cases hs : (hh.map ρ).isSome <;> simp [hs]
          · obtain ⟨z, hz, rfl⟩ := List.mem_map.1 hd
            exact (fit z).trans g4
      · cases he
    · exact (g_fail h).elim
  · rename_i el rr lo ln cap hu hx
    split at h
    · rename_i sz es fz i j q hob
      obtain ⟨h, b1⟩ := bd_ok h
      obtain ⟨h, b2⟩ := bd_ok h
      obtain ⟨h, b3⟩ := bd_ok h
      obtain ⟨g1, h⟩ := g_guard h
      obtain ⟨g2, h⟩ := g_guard h
      obtain ⟨g3, h⟩ := g_guard h
      obtain ⟨g4, h⟩ := g_guard h
      have g1 := of_decide_eq_true g1
      have g2 := of_decide_eq_true g2
      have g3 := of_decide_eq_true g3
      refine ⟨_, h, enough_of rfl fun e he => ?_⟩
      simp only [sem, semSlice] at he
      split at he
      · rename_i ol oh om e1 e2 e3
        simp only [hu, hx, hob] at he
        split at he
        · rename_i sz1 es1 fz1 sz' q1 q2
          cases q1
          cases hb : (Nat.beq sz sz' && ((hh.map ρ).isSome || !(m.map ρ).isSome)) with
          | false => rw [hb] at he; cases he
          | true =>
            rw [hb] at he
            simp only [cond_true, Option.some.injEq] at he
            subst he
            refine all_app (all_app (all_app (all_app (b1 _ e1) (b2 _ e2)) (b3 _ e3)) ⟨g1, g2, g3, trivial⟩) ?_
            cases hm : (m.map ρ).isSome with
            | false => trivial
            | true =>
              rw [hm] at g4
              simp only [cond_true, Bool.and_eq_true, decide_eq_true_eq] at g4
              exact ⟨g4.1, g4.2, trivial⟩
        · cases he
      · cases he
    · exact (g_fail h).elim
  · rename_i s hu hx
    split at h
    · rename_i i j q
      obtain ⟨h, b1⟩ := bd_ok h
      obtain ⟨h, b2⟩ := bd_ok h
      obtain ⟨g1, h⟩ := g_guard h
      obtain ⟨g2, h⟩ := g_guard h
      have g1 := of_decide_eq_true g1
      have g2 := of_decide_eq_true g2
      refine ⟨_, h, enough_of rfl fun e he => ?_⟩
      simp only [sem, semSlice] at he
      split at he
      · rename_i ol oh om e1 e2 e3
        simp only [hu, hx] at he
        cases hm : (m.map ρ).isSome with
        | true => rw [hm] at he; cases he
        | false =>
          rw [hm] at he
          simp only [cond_false, Option.some.injEq] at he
          subst he
          exact all_app (all_app (b1 _ e1) (b2 _ e2)) ⟨g1, g2, trivial⟩
      · cases he
    · exact (g_fail h).elim
  · exact (g_fail h).elim

theorem byte_at {s : ByteArray} {i : Nat} (h : i < s.size) : s[i]? = some (s.get! i) := by
  rw [getElem?_pos s i h]
  cases s with
  | mk d =>
    have h' : i < d.size := h
    simp only [ByteArray.get!, Option.some.injEq]
    show d[i] = d[i]!
    simp [h']
theorem cond_some {b : Bool} {x e : Eff} (h : (bif b then some x else none) = some e) : x = e := by cases b with
  | false => cases h
  | true => simpa using h
theorem cond_cases {b : Bool} {x y : Option Eff} {e : Eff} (h : (bif b then x else y) = some e) : x = some e ∨ y = some e := by cases b with
  | false => exact .inr h
  | true => exact .inl h
theorem none_obl {op : Op} {h : Hint} (hv : h.val = none) (hn : ∀ e, sem P op h ρ obs = some e → e.obl = []) : Enough P op ρ obs h := enough_of hv fun e he => by rw [hn e he]; trivial

theorem needT_ok {op : Op} {nx : Nat} (h : G (needT P op h2 ρ obs nx k) r) : ∃ h, G (k h) r ∧ Enough P op ρ obs h := by
  unfold needT at h
  split at h
  · exact ⟨_, h, none_obl rfl fun e he => by simp only [sem, Option.some.injEq] at he; subst he; rfl⟩
  · exact ⟨_, h, none_obl rfl fun e he => by simp only [sem, Option.some.injEq] at he; subst he; rfl⟩
  · exact ⟨_, h, none_obl rfl fun e he => by simp only [sem] at he; split at he <;> first | contradiction | (simp only [Option.some.injEq] at he; subst he; rfl)⟩
  · exact ⟨_, h, none_obl rfl fun e he => by simp only [sem, Option.some.injEq] at he; subst he; rfl⟩
  · exact ⟨_, h, none_obl rfl fun e he => by
      simp only [sem] at he
      repeat' (split at he)
      all_goals first | contradiction | (simp only [Option.some.injEq] at he; subst he; rfl)⟩
  · exact ⟨_, h, none_obl rfl fun e he => by
      simp only [sem] at he
      repeat' (split at he)
      all_goals first
        | contradiction
        | (simp only [Option.some.injEq] at he; subst he; rfl)
        | (have := cond_some he; subst this; rfl)⟩
  · exact ⟨_, h, none_obl rfl fun e he => by
      simp only [sem] at he
      repeat' (split at he)
      all_goals first | contradiction | (simp only [Option.some.injEq] at he; subst he; rfl)⟩
  · exact ⟨_, h, none_obl rfl fun e he => by
      simp only [sem] at he
      repeat' (split at he)
      all_goals first | contradiction | (simp only [Option.some.injEq] at he; subst he; rfl)⟩
  · exact ⟨_, h, none_obl rfl fun e he => by
      simp only [sem] at he
      repeat' (split at he)
      all_goals first | contradiction | (simp only [Option.some.injEq] at he; subst he; rfl)⟩
  · exact ⟨_, h, none_obl rfl fun e he => by simp only [sem] at he; split at he <;> first | contradiction | (simp only [Option.some.injEq] at he; subst he; rfl)⟩
  · exact ⟨_, h, none_obl rfl fun e he => by
      simp only [sem] at he
      split at he
      · rename_i cs hcs
        cases hb : cs.all A.one with
        | false => rw [hb] at he; cases he
        | true => rw [hb] at he; simp only [cond_true, Option.some.injEq] at he; subst he; rfl
      · cases he⟩
  · exact ⟨_, h, none_obl rfl fun e he => by
      simp only [sem] at he
      rcases cond_cases he with he | he
      · repeat' (split at he)
        all_goals first
          | contradiction
          | (simp only [Option.some.injEq] at he; subst he; rfl)
      · repeat' (split at he)
        all_goals first
          | contradiction
          | skip
        have := cond_some he
        subst this; rfl⟩
  · obtain ⟨h', h1, hv, h3⟩ := binT_ok (P := P) h
    exact ⟨h', h1, enough_of hv fun e he => by
      simp only [sem, pure1] at he
      split at he
      · rename_i y o hy
        simp only [Option.some.injEq] at he
        subst he
        exact h3 _ hy
      · cases he⟩
  · split at h
    · rename_i kd n hx
      obtain ⟨h', h1, hv, h3⟩ := arT_ok h
      exact ⟨h', h1, enough_of hv fun e he => by
        simp only [sem, hx, pure1, Option.some.injEq] at he
        subst he
        exact h3⟩
    · rename_i hn
      exact ⟨_, h, none_obl rfl fun e he => by
        simp only [sem] at he
        split at he
        · simp only [Option.some.injEq] at he; subst he; rfl
        · rename_i hx; exact (hn _ _ rfl hx).elim
        · cases he⟩
  · split at h
    · rename_i kd kd' n hu hx
      split at h
      · exact ⟨_, h, enough_of rfl fun e he => by
          simp only [sem] at he
          split at he
          · simp only [pure1, Option.some.injEq] at he; subst he; trivial
          · cases he⟩
      · obtain ⟨g1, h⟩ := g_guard h
        exact ⟨_, h, enough_of rfl fun e he => by
          simp only [sem] at he
          split at he
          · rename_i q1 q2 q3
            rw [hu] at q2; cases q2
            rw [hx] at q3; cases q3
            simp only [pure1, Option.some.injEq] at he; subst he; exact ⟨of_decide_eq_true g1, trivial⟩
          · cases he⟩
    · exact (g_fail h).elim
  · exact addrT_ok h
  · exact loadT_ok h
  · exact storeT_ok h
  · exact makeT_ok h
  · exact sliceT_ok h
  · split at h
    · rename_i s kd n s' i hx hix
      obtain ⟨g1, h⟩ := g_ix h
      obtain ⟨g2, h⟩ := g_chk h
      obtain ⟨g3, h⟩ := g_guard h
      have g3 := of_decide_eq_true g3
      exact ⟨_, h, enough_of rfl fun e he => by
        simp only [sem, hx, hix] at he
        split at he
        · rename_i q1 q2 q3
          cases q2; cases q3
          simp only [Option.some.injEq] at he
          subst he
          refine ⟨g1, ?_, trivial⟩
          subst g2
          exact byte_at g3
        · rename_i q1 q2 q3
          cases q2
        · cases he⟩
    · exact (g_fail h).elim
  · rename_i c
    split at h
    · rename_i hc
      split at h
      · rename_i x' hx
        have : ∃ x, c.args.toList.map ρ = [ρ x] ∧ ρ x = x' := by
          match hl : c.args.toList, hx with
          | [x], hx => exact ⟨x, rfl, by simpa using hx⟩
        obtain ⟨x, h1, rfl⟩ := this
        exact lenT_ok hc h1 h
      · exact (g_fail h).elim
    · rename_i hc
      split at h
      · rename_i t t2 x' y' ht hx
        have : ∃ x y, c.args.toList.map ρ = [ρ x, ρ y] ∧ ρ x = x' ∧ ρ y = y' := by
          match hl : c.args.toList, hx with
          | [x, y], hx => exact ⟨x, y, rfl, by simpa using hx⟩
        obtain ⟨x, y, h1, rfl, rfl⟩ := this
        exact appT_ok hc ht h1 h
      · exact (g_fail h).elim
    · rename_i hc
      exact ⟨_, h, none_obl rfl fun e he => by
        simp only [sem, hc] at he
        split at he
        · simp only [Option.some.injEq] at he; subst he; rfl
        · cases he⟩
    · rename_i hc
      exact ⟨_, h, none_obl rfl fun e he => by
        simp only [sem, hc] at he
        split at he
        · simp only [Option.some.injEq] at he; subst he; rfl
        · cases he⟩
    · exact (g_fail h).elim
  · exact (g_fail h).elim
end
end Go.Ab
