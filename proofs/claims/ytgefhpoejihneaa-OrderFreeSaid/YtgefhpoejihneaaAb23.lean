/-
  A LAYER OVER THE KIT's 'Code.wp' (part 23): what a tree asks of operations is enough.
  Conditions: none. No project text.
-/
import Derived.Test.YtgefhpoejihneaaAb22
namespace Go.Ab
set_option linter.unusedVariables false
set_option linter.unusedSimpArgs false

section
variable {R : Type} {r : R}

/-- all checks hold, and the answer is r -/
def G (t : Tree R) (r : R) : Prop := t.ok ∧ t.den = some r

theorem g_fail (h : G (.fail : Tree R) r) : False := by simp [G, Tree.den] at h
theorem g_guard {b : Bool} {t : Tree R} (h : G (.guard b t) r) : b = true ∧ G t r := by
  cases b with
  | false => simp [G, Tree.den] at h
  | true => exact ⟨rfl, h.1, h.2⟩
theorem g_chk {X : Type} {a b : X} {t : Tree R} (h : G (.chk a b t) r) : a = b ∧ G t r := ⟨h.1.1, h.1.2, h.2⟩
theorem g_ite {b : Bool} {x y : Tree R} (h : G (.ite b x y) r) : (b = true ∧ G x r) ∨ (b = false ∧ G y r) := by
  cases b with
  | false => exact .inr ⟨rfl, h.1.2, h.2⟩
  | true => exact .inl ⟨rfl, h.1.1, h.2⟩
theorem g_bind {X : Type} {m : Option X} {k : X → Tree R} (h : G (.bind m k) r) : ∃ x, m = some x ∧ G (k x) r := by
  cases m with
  | none => simp [G, Tree.den] at h
  | some x => exact ⟨x, rfl, h.1 x, h.2⟩
theorem g_sum {X Y : Type} {v : X ⊕ Y} {f : X → Tree R} {g : Y → Tree R} (h : G (.sum v f g) r) : (∃ a, v = .inl a ∧ G (f a) r) ∨ ∃ b, v = .inr b ∧ G (g b) r := by
  cases v with
  | inl a => exact .inl ⟨a, rfl, h.1.1 a, h.2⟩
  | inr b => exact .inr ⟨b, rfl, h.1.2 b, h.2⟩
theorem g_ix {i : IX} {n : Int} {t : Tree R} (h : G (i.chk n t) r) : n = (i.k n : Int) ∧ G t r := by
  cases i with
  | up k => exact g_chk h
  | dn =>
    obtain ⟨h1, h2⟩ := g_guard h
    have := of_decide_eq_true h1
    exact ⟨by simp only [IX.k]; omega, h2⟩

theorem arT_ok {h2 : H2} {kd : IntKind} {n : Int} {k : Hint → Tree R} (h : G (arT h2 kd n k) r) : ∃ h, G (k h) r ∧ h.val = none ∧ All (intRes kd n h.nw).2 := by
  have hg : G (Tree.guard (inK kd n) (k { nw := true })) r → ∃ h, G (k h) r ∧ h.val = none ∧ All (intRes kd n h.nw).2 := fun h => by
    obtain ⟨h1, h2⟩ := g_guard h
    exact ⟨_, h2, rfl, of_decide_eq_true h1, trivial⟩
  unfold arT at h
  split at h
  · exact hg h
  · exact ⟨_, h, rfl, trivial⟩
  · cases hs : signed kd with
    | true => simp only [hs, cond_true] at h; exact hg h
    | false => simp only [hs, cond_false] at h; exact ⟨_, h, rfl, trivial⟩

theorem semBin_int {P : Program} {t : TypeId} {op : BinOp} {nw : Bool} {kd kd' : IntKind} {a b : Int} {z : A × List Prop} (hop : op ≠ .shl ∧ op ≠ .shr) (hz : semBin P op t nw (.d (.v (.int kd a))) (.d (.v (.int kd' b))) = some z) : semInt op nw kd a b = some z := by
  simp only [semBin] at hz
  split at hz
  · exact absurd rfl hop.1
  · exact absurd rfl hop.2
  · cases hk : decide (kd = kd') with
    | false => rw [hk] at hz; cases hz
    | true => rw [hk] at hz; exact hz

theorem binT_ok {P : Program} {t : TypeId} {op : BinOp} {h2 : H2} {x y : A} {k : Hint → Tree R} (h : G (binT op h2 x y k) r) : ∃ h, G (k h) r ∧ h.val = none ∧ ∀ z, semBin P op t h.nw x y = some z → All z.2 := by
  unfold binT at h
  split at h
  · rename_i kd a kd' b
    split at h
    · obtain ⟨h, h1, h3, h4⟩ := arT_ok h
      refine ⟨h, h1, h3, fun z hz => ?_⟩
      have := semBin_int ⟨by simp, by simp⟩ hz
      simp only [semInt, Option.some.injEq] at this; subst this; exact h4
    · obtain ⟨h, h1, h3, h4⟩ := arT_ok h
      refine ⟨h, h1, h3, fun z hz => ?_⟩
      have := semBin_int ⟨by simp, by simp⟩ hz
      simp only [semInt, Option.some.injEq] at this; subst this; exact h4
    · obtain ⟨h, h1, h3, h4⟩ := arT_ok h
      refine ⟨h, h1, h3, fun z hz => ?_⟩
      have := semBin_int ⟨by simp, by simp⟩ hz
      simp only [semInt, Option.some.injEq] at this; subst this; exact h4
    · split at h
      · obtain ⟨g1, h⟩ := g_guard h
        refine ⟨_, h, rfl, fun z hz => ?_⟩
        have := semBin_int ⟨by simp, by simp⟩ hz
        simp only [semInt, cond_false, Option.some.injEq] at this; subst this; exact ⟨of_decide_eq_true g1, trivial⟩
      · obtain ⟨g1, h⟩ := g_guard h
        obtain ⟨g2, h⟩ := g_guard h
        obtain ⟨g3, h⟩ := g_guard h
        refine ⟨_, h, rfl, fun z hz => ?_⟩
        have := semBin_int ⟨by simp, by simp⟩ hz
        simp only [semInt, cond_true, Option.some.injEq] at this; subst this; exact ⟨of_decide_eq_true g1, of_decide_eq_true g2, of_decide_eq_true g3, trivial⟩
    · split at h
      · obtain ⟨g1, h⟩ := g_guard h
        refine ⟨_, h, rfl, fun z hz => ?_⟩
        have := semBin_int ⟨by simp, by simp⟩ hz
        simp only [semInt, cond_false, Option.some.injEq] at this; subst this; exact ⟨of_decide_eq_true g1, trivial⟩
      · obtain ⟨g1, h⟩ := g_guard h
        obtain ⟨g2, h⟩ := g_guard h
        refine ⟨_, h, rfl, fun z hz => ?_⟩
        have := semBin_int ⟨by simp, by simp⟩ hz
        simp only [semInt, cond_true, Option.some.injEq] at this; subst this; exact ⟨of_decide_eq_true g1, of_decide_eq_true g2, trivial⟩
    · obtain ⟨g1, h⟩ := g_guard h
      refine ⟨_, h, rfl, fun z hz => ?_⟩
      simp only [semBin, semShift, Option.some.injEq] at hz; subst hz; exact ⟨of_decide_eq_true g1, trivial⟩
    · obtain ⟨g1, h⟩ := g_guard h
      refine ⟨_, h, rfl, fun z hz => ?_⟩
      simp only [semBin, semShift, Option.some.injEq] at hz; subst hz; exact ⟨of_decide_eq_true g1, trivial⟩
    · rename_i n1 n2 n3 n4 n5 n6 n7
      refine ⟨_, h, rfl, fun z hz => ?_⟩
      have := semBin_int ⟨fun e => n6 e, fun e => n7 e⟩ hz
      unfold semInt at this
      split at this <;> first
        | contradiction
        | (simp only [Option.some.injEq] at this; subst this; first | trivial | (exfalso; simp_all; done))
  · split at h
    · obtain ⟨g1, h⟩ := g_guard h
      refine ⟨_, h, rfl, fun z hz => ?_⟩
      simp only [semBin, semStr, Option.some.injEq] at hz; subst hz; exact ⟨of_decide_eq_true g1, trivial⟩
    · rename_i h1
      refine ⟨_, h, rfl, fun z hz => ?_⟩
      simp only [semBin] at hz
      unfold semStr at hz
      split at hz <;> first
        | contradiction
        | (simp only [Option.some.injEq] at hz; subst hz; trivial)
  · rename_i es
    have key : 0 < es.length → ∀ z, semBin P op t false (.d (.sl es)) (.d (.v (.slice none 0 0))) = some z → All z.2 := fun h0 z hz => by
      simp only [semBin] at hz
      split at hz
      · cases hz; exact ⟨h0, trivial⟩
      · cases hz; exact ⟨h0, trivial⟩
      · cases hz
    split at h
    · rename_i α c l
      obtain ⟨g1, h⟩ := g_chk h
      obtain ⟨g2, h⟩ := g_guard h
      exact ⟨_, h, rfl, key (by rw [g1]; simpa using of_decide_eq_true g2)⟩
    · obtain ⟨g2, h⟩ := g_guard h
      exact ⟨_, h, rfl, key (of_decide_eq_true g2)⟩
  · rename_i h1 h2 h3
    refine ⟨_, h, rfl, fun z hz => ?_⟩
    unfold semBin at hz
    split at hz
    · exact (h1 _ _ _ _ rfl rfl).elim
    · split at hz
      · cases hz; exact trivial
      · cases hz; exact trivial
      · cases hz
    · exact (h2 _ _ rfl rfl).elim
    · exact (h3 _ rfl rfl).elim
    · split at hz
      · cases hz; exact trivial
      · cases hz; exact trivial
      · cases hz
    · split at hz
      · cases hz; exact trivial
      · cases hz; exact trivial
      · cases hz
    · cases hz

theorem getD_some {α : Type} {d : α} {l : List α} {i : Nat} (h : i < l.length) : l[i]? = some (l.getD i d) := by
  simp [List.getD, List.getElem?_eq_getElem h]
theorem getD_map {α β : Type} {c : α → β} {d : α} {l : List α} {i : Nat} (h : i < l.length) : (l.map c)[i]? = some (c (l.getD i d)) := by
  rw [List.getElem?_map, getD_some (d := d) h]; rfl

variable {P : Program} {h2 : H2} {ρ : Operand → A} {obs : Nat → Option Ob} {k : Hint → Tree R}
/-- enough is asked -/
abbrev Enough (P : Program) (op : Op) (ρ : Operand → A) (obs : Nat → Option Ob) (h : Hint) : Prop := ∀ e, semV P op h ρ obs = some e → All e.obl

theorem enough_of {op : Op} {h : Hint} (hv : h.val = none) (hs : ∀ e, sem P op h ρ obs = some e → All e.obl) : Enough P op ρ obs h := fun e he => by
  unfold semV at he
  rw [hv] at he
  split at he
  · rename_i e1 h1; simp only [Option.some.injEq] at he; subst he; exact hs _ h1
  · cases he
theorem enough_val {op : Op} {h : Hint} {v : A} (hv : h.val = some v) (hs : ∀ e, sem P op h ρ obs = some e → e.res = v ∧ All e.obl) : Enough P op ρ obs h := fun e he => by
  unfold semV at he
  rw [hv] at he
  split at he
  · rename_i e1 h1; simp only [Option.some.injEq] at he; subst he; exact hs _ h1
  · cases he

theorem addrT_ok {t : TypeId} {x ix : Operand} (h : G (addrT P h2 t (ρ x) (ρ ix) obs k) r) : ∃ h, G (k h) r ∧ Enough P (.indexAddr t x ix) ρ obs h := by
  unfold addrT at h
  split at h
  · rename_i el es kd n hu hx hix
    split at h
    · rename_i sz α inst c l i hsz
      obtain ⟨g1, h⟩ := g_ix h
      obtain ⟨g2, h⟩ := g_guard h
      obtain ⟨g3, h⟩ := g_chk h
      obtain ⟨g4, h⟩ := g_chk h
      refine ⟨_, h, enough_of rfl fun e he => ?_⟩
      simp only [sem, hu, hx, hix, hsz, Option.some.injEq] at he
      subst he
      exact ⟨g1, by rw [g3]; exact getD_map (of_decide_eq_true g2), g4, trivial⟩
    · exact (g_fail h).elim
  · rename_i el rr lo ln cap kd n hu hx hix
    split at h
    · rename_i sz es fz α inst c l i hob
      obtain ⟨g1, h⟩ := g_ix h
      obtain ⟨g2, h⟩ := g_guard h
      obtain ⟨g3, h⟩ := g_chk h
      refine ⟨_, h, enough_of rfl fun e he1 => ?_⟩
      simp only [sem, hu, hx, hix, hob] at he1
      split at he1
      · rename_i sz1 es1 fz1 sz2 hs1 hs2
        cases hs1
        cases hb : Nat.beq sz sz2 with
        | false => rw [hb] at he1; cases he1
        | true =>
          rw [hb] at he1
          simp only [cond_true, Option.some.injEq] at he1
          subst he1
          exact ⟨g1, by rw [g3, List.length_map]; exact of_decide_eq_true g2, trivial⟩
      · cases he1
    · exact (g_fail h).elim
  · rename_i len el kd n hu hix
    split at h
    · rename_i i
      obtain ⟨g1, h⟩ := g_ix h
      obtain ⟨g2, h⟩ := g_guard h
      have g2 := of_decide_eq_true g2
      refine ⟨_, h, enough_of rfl fun e he => ?_⟩
      simp only [sem, hu, hix] at he
      split at he
      · rename_i q1 _ _; cases q1
      · rename_i q1 _ _; cases q1
      · rename_i q1 _ q3
        cases q1; cases q3
        split at he
        · simp only [Option.some.injEq] at he; subst he; exact ⟨g1, g2, trivial⟩
        · cases he
      · rename_i q1 _ q3
        cases q1; cases q3
        split at he
        · simp only [Option.some.injEq] at he; subst he; exact ⟨g1, g2, trivial⟩
        · cases he
      · cases he
    · exact (g_fail h).elim
  · exact (g_fail h).elim

theorem view_all {h : Hint} {p : A} {v : List A × Nat × List Prop} (hv : view obs h p = some v) (hb : ∀ q i j, p = .ptr q i j → (∀ sz es fz, obs q = some (.row sz es fz) → es[i]? = some h.cs)) : All v.2.2 := by
  unfold view at hv
  split at hv
  · rename_i q i j
    split at hv
    · rename_i cs hob
      cases hi : Nat.beq i 0 with
      | false => rw [hi] at hv; cases hv
      | true => rw [hi] at hv; simp only [cond_true, Option.some.injEq] at hv; subst hv; trivial
    · rename_i sz es fz hob
      simp only [Option.some.injEq] at hv; subst hv
      exact ⟨hb q i j rfl sz es fz hob, trivial⟩
    · cases hv
  · simp only [Option.some.injEq] at hv; subst hv; trivial
  · cases hv

theorem load_all {t : TypeId} {x : Operand} {h : Hint} {e : Eff} (he : sem P (.load t x) h ρ obs = some e)
    (hv : ∀ v, view obs h (ρ x) = some v → All v.2.2 ∧ ∀ u, h.ld = some u → v.1[v.2.1]? = some u) : All e.obl := by
  simp only [sem] at he
  split at he
  · rename_i cs j o n h1 h2 h3
    cases hc : Nat.ble (j + n) cs.length with
    | false => rw [hc] at he; cases he
    | true => rw [hc] at he; simp only [cond_true, Option.some.injEq] at he; subst he; exact (hv _ h1).1
  · rename_i cs j o n h1 h2 h3
    split at he
    · rename_i v hl
      simp only [Option.some.injEq] at he; subst he
      exact ⟨(hv _ h1).2 v hl, (hv _ h1).1⟩
    · rename_i hl
      split at he
      · simp only [Option.some.injEq] at he; subst he; exact (hv _ h1).1
      · cases he
  · cases he

theorem arr_get {kd : IntKind} {n q : Nat} {f : Nat → Int} (h : q < n) : ((arrI kd n f).map A.d)[q]? = some (.d (.v (.int kd (f q)))) := by
  simp [arrI, h]
theorem arr_len {kd : IntKind} {n : Nat} {f : Nat → Int} : (arrI kd n f).length = n := by simp [arrI]
theorem arr_set {kd : IntKind} {n q : Nat} {f : Nat → Int} {x : Int} (h : q < n) : splice (arrI kd n f) q [.v (.int kd x)] = arrI kd n (putF f q x) := by
  simp only [splice, arrI]
  apply List.ext_getElem
  · simp
  · intro i h1 h2
    simp only [List.getElem_set, List.getElem_map, List.getElem_range, putF]
    by_cases e : q = i
    · subst e; simp [Nat.beq_refl]
    · rw [if_neg e, show Nat.beq i q = false from Bool.eq_false_iff.2 fun x => e (Nat.eq_of_beq_eq_true x).symm]; rfl

theorem loadT_ok {t : TypeId} {x : Operand} (h : G (loadT h2 (ρ x) obs k) r) : ∃ h, G (k h) r ∧ Enough P (.load t x) ρ obs h := by
  have plain : ∀ (h : Hint), h.val = none → h.ld = none → (∀ q i j, ρ x = .ptr q i j → ∀ sz es fz, obs q = some (.row sz es fz) → es[i]? = some h.cs) → Enough P (.load t x) ρ obs h := fun h hv hl hb =>
    enough_of hv fun e he => load_all he fun v hw => ⟨view_all hw fun q i j hp => hb q i j hp, fun u hu => by rw [hl] at hu; cases hu⟩
  unfold loadT at h
  split at h
  · rename_i q i j hx
    split at h
    · rename_i sz es fz hob
      split at h
      · rename_i α inst c l
        obtain ⟨g1, h⟩ := g_guard h
        obtain ⟨g2, h⟩ := g_chk h
        refine ⟨_, h, plain _ rfl rfl fun q' i' j' hp sz' es' fz' ho' => ?_⟩
        rw [hx] at hp
        cases hp
        rw [hob] at ho'
        cases ho'
        rw [g2]; exact getD_map (of_decide_eq_true g1)
      · rename_i kd n l m
        obtain ⟨g1, h⟩ := g_guard h
        obtain ⟨g2, h⟩ := g_chk h
        obtain ⟨g3, h⟩ := g_chk h
        obtain ⟨g4, hh⟩ := g_guard h
        clear h
        subst g2; subst g3
        refine ⟨_, hh, enough_of rfl fun e he => load_all he fun v hw => ⟨view_all hw fun q' i' j' hp sz' es' fz' ho' => ?_, fun u hu => ?_⟩⟩
        · rw [hx] at hp
          cases hp
          rw [hob] at ho'
          cases ho'
          exact getD_map (of_decide_eq_true g1)
        · simp only [view, hx, hob, Option.some.injEq] at hw hu
          subst hw; subst hu
          exact arr_get (of_decide_eq_true g4)
      · exact (g_fail h).elim
    · rename_i cs hob
      split at h
      · rename_i kd n f m
        obtain ⟨g2, h⟩ := g_chk h
        obtain ⟨g3, h⟩ := g_chk h
        obtain ⟨g4, hh⟩ := g_guard h
        clear h
        subst g2; subst g3
        refine ⟨_, hh, enough_of rfl fun e he => load_all he fun v hw => ⟨view_all hw fun q' i' j' hp sz' es' fz' ho' => ?_, fun u hu => ?_⟩⟩
        · rw [hx] at hp
          cases hp
          rw [hob] at ho'
          cases ho'
        · simp only [view, hx, hob] at hw
          cases hi : Nat.beq i 0 with
          | false => rw [hi] at hw; cases hw
          | true =>
            rw [hi] at hw
            simp only [cond_true, Option.some.injEq] at hw hu
            subst hw; subst hu
            exact arr_get (of_decide_eq_true g4)
      · refine ⟨_, h, plain _ rfl rfl fun q' i' j' hp sz' es' fz' ho' => ?_⟩
        rw [hx] at hp
        cases hp
        rw [hob] at ho'
        cases ho'
    · rename_i hn1 hn2
      refine ⟨_, h, plain _ rfl rfl fun q' i' j' hp sz' es' fz' ho' => ?_⟩
      rw [hx] at hp
      cases hp
      exact (hn1 _ _ _ ho').elim
  · rename_i c j hx
    split at h
    · rename_i kd n f m
      obtain ⟨g2, h⟩ := g_chk h
      obtain ⟨g3, h⟩ := g_chk h
      obtain ⟨g4, hh⟩ := g_guard h
      clear h
      subst g2; subst g3
      refine ⟨_, hh, enough_of rfl fun e he => load_all he fun v hw => ⟨view_all hw fun q' i' j' hp sz' es' fz' ho' => ?_, fun u hu => ?_⟩⟩
      · rw [hx] at hp
        cases hp
      · simp only [view, hx, Option.some.injEq] at hw hu
        subst hw; subst hu
        exact arr_get (of_decide_eq_true g4)
    · refine ⟨_, h, plain _ rfl rfl fun q' i' j' hp => ?_⟩
      rw [hx] at hp
      cases hp
  · rename_i hn1 hn2
    refine ⟨_, h, plain _ rfl rfl fun q' i' j' hp => ?_⟩
    exact (hn1 _ _ _ hp).elim

theorem ble_of {a b : Nat} (h : Nat.ble a b = true) : a ≤ b := Nat.le_of_ble_eq_true h

theorem storeT_ok {t : TypeId} {x v : Operand} (h : G (storeT h2 (ρ x) (ρ v) obs k) r) : ∃ h, G (k h) r ∧ Enough P (.store t x v) ρ obs h := by
  have key : ∀ (h : Hint), h.val = none → (∀ q i j vs sz es fz ds n, ρ x = .ptr q i j → (ρ v).cells? = some vs → obs q = some (.row sz es fz) → A.toDs obs vs = some ds → Nat.beq vs.length n = true →
      es[i]? = some h.cs ∧ j + n ≤ h.cs.length ∧ fz ≤ i ∧ ∀ e', h.es = some e' → es.set i (splice h.cs j ds) = e') → Enough P (.store t x v) ρ obs h := fun h hv hb => by
    refine enough_of hv fun e he => ?_
    simp only [sem] at he
    split at he
    · rename_i vs n h1 h3
      cases hc : (Nat.beq vs.length n && vs.all A.one) with
      | false => rw [hc] at he; cases he
      | true =>
        rw [hc] at he
        simp only [cond_true] at he
        have hvn := (Bool.and_eq_true_iff.1 hc).1
        split at he
        · rename_i q i j hx
          split at he
          · rename_i cs hob
            cases hb2 : (Nat.beq i 0 && Nat.ble (j + n) cs.length) with
            | false => rw [hb2] at he; cases he
            | true => rw [hb2] at he; simp only [cond_true, Option.some.injEq] at he; subst he; trivial
          · rename_i sz es fz hob
            split at he
            · rename_i ds fr hds hfr
              cases hm : mem (A.rowsL vs) q with
              | true => rw [hm] at he; cases he
              | false =>
                rw [hm] at he
                simp only [cond_false, Option.some.injEq] at he
                subst he
                obtain ⟨b1, b2, b3, b4⟩ := hb q i j vs sz es fz ds n hx h1 hob hds hvn
                refine ⟨b1, b2, b3, ?_⟩
                cases hes : h.es with
                | none => trivial
                | some e' => exact ⟨b4 e' hes, trivial⟩
            · cases he
          · cases he
        · cases he
    · cases he
  unfold storeT at h
  split at h
  · rename_i q i j hx
    split at h
    · rename_i sz es fz vs hob hvs
      split at h
      · rename_i ds α inst c l y hds
        obtain ⟨g1, h⟩ := g_guard h
        obtain ⟨g2, h⟩ := g_chk h
        obtain ⟨g3, h⟩ := g_chk h
        obtain ⟨g4, h⟩ := g_chk h
        obtain ⟨g5, h⟩ := g_chk h
        refine ⟨_, h, key _ rfl fun q' i' j' vs' sz' es' fz' ds' n' e1 e2 e3 e4 e5 => ?_⟩
        rw [hx] at e1; cases e1
        rw [hvs] at e2; cases e2
        rw [hob] at e3; cases e3
        rw [hds] at e4; cases e4
        obtain rfl := beq_true e5
        subst g2
        refine ⟨getD_map (of_decide_eq_true g1), ble_of g3, ble_of g4, fun e' he' => ?_⟩
        simp only [Option.some.injEq] at he'
        subst he'
        rw [g5, List.map_set]
      · rename_i ds kd n l m y hds
        obtain ⟨g1, h⟩ := g_guard h
        obtain ⟨g6, h⟩ := g_guard h
        obtain ⟨g2, h⟩ := g_chk h
        obtain ⟨g3, h⟩ := g_chk h
        obtain ⟨g4, h⟩ := g_chk h
        obtain ⟨g5, h⟩ := g_chk h
        obtain ⟨g7, h⟩ := g_chk h
        have g6 := of_decide_eq_true g6
        refine ⟨_, h, key _ rfl fun q' i' j' vs' sz' es' fz' ds' n' e1 e2 e3 e4 e5 => ?_⟩
        rw [hx] at e1; cases e1
        rw [hvs] at e2; cases e2
        rw [hob] at e3; cases e3
        rw [hds] at e4; cases e4
        obtain rfl := beq_true e5
        subst g2; subst g5; subst g3
        refine ⟨getD_map (of_decide_eq_true g1), ?_, ble_of g4, fun e' he' => ?_⟩
        · rw [g7, arr_len]; exact g6
        · simp only [Option.some.injEq] at he'
          subst he'
          rw [arr_set g6, List.map_set]
      · exact (g_fail h).elim
    · rename_i hno
      refine ⟨_, h, key _ rfl fun q' i' j' vs' sz' es' fz' ds' n' e1 e2 e3 e4 e5 => ?_⟩
      rw [hx] at e1; cases e1
      exact (hno _ _ _ _ e3 e2).elim
  · rename_i hno
    refine ⟨_, h, key _ rfl fun q' i' j' vs' sz' es' fz' ds' n' e1 e2 e3 e4 e5 => ?_⟩
    exact (hno _ _ _ e1).elim

theorem makeT_ok {t : TypeId} {x y : Operand} {nx : Nat} (h : G (makeT P h2 t (ρ x) (ρ y) nx k) r) : ∃ h, G (k h) r ∧ Enough P (.makeSlice t x y) ρ obs h := by
  unfold makeT at h
  split at h
  · rename_i el kd n kd' m hu hx hy
    split at h
    · rename_i i z α c w ix hi hz
      obtain ⟨g1, h⟩ := g_ix h
      obtain ⟨g2, h⟩ := g_chk h
      obtain ⟨g3, h⟩ := g_guard h
      obtain ⟨g4, h⟩ := g_chk h
      obtain ⟨g5, h⟩ := g_chk h
      have g3 := of_decide_eq_true g3
      have g4 := ble_of g4
      refine ⟨_, h, enough_of rfl fun e he => ?_⟩
      simp only [sem, hu, hx, hy, hi, hz] at he
      cases hb : Nat.beq z.length i.size with
      | false => rw [hb] at he; cases he
      | true =>
        rw [hb] at he
        simp only [cond_true, Option.some.injEq] at he
        subst he
        refine ⟨g1, g2 ▸ g1, Nat.le_refl _, ?_, ?_, ?_, trivial⟩
        · exact Nat.le_trans (Nat.mul_le_mul g3 g4) (by decide)
        · exact Nat.le_trans g3 (by decide)
        · rw [g5]; simp
    · exact (g_fail h).elim
  · exact (g_fail h).elim

theorem lenT_ok {c : Call} {x : Operand} (hc : c.callee = .builtin .len) (ha : c.args.toList.map ρ = [ρ x]) (h : G (lenT h2 (ρ x) obs k) r) : ∃ h, G (k h) r ∧ Enough P (.call c) ρ obs h := by
  have red : ∀ (h : Hint) (e : Eff), sem P (.call c) h ρ obs = some e → ∃ t y, semLen P t obs (ρ x) = some y ∧ e.res = y.1 ∧ e.obl = y.2 := fun h e he => by
    simp only [sem, hc, ha] at he
    split at he
    · rename_i t x' h1 h3
      simp only [List.cons.injEq, and_true] at h3
      subst h3
      unfold pure1 at he
      split at he
      · rename_i y o hy
        simp only [Option.some.injEq] at he; subst he
        exact ⟨t, _, hy, rfl, rfl⟩
      · cases he
    · cases he
  have noobl : ∀ t y, semLen P t obs (ρ x) = some y → y.2 = [] := fun t y hy => by
    unfold semLen at hy
    split at hy
    · cases hy; rfl
    · cases hy; rfl
    · split at hy
      · cases hy; rfl
      · cases hy
    · cases hy; rfl
    · split at hy
      · cases hy; rfl
      · cases hy
    · cases hy
  have plain : Enough P (.call c) ρ obs {} := enough_of rfl fun e he => by
    obtain ⟨t, y, h1, h3, h4⟩ := red _ _ he
    rw [h4, noobl t y h1]; trivial
  unfold lenT at h
  split at h
  · rename_i es hx
    split at h
    · rename_i α cc l
      obtain ⟨g1, h⟩ := g_chk h
      refine ⟨_, h, enough_val rfl fun e he => ?_⟩
      obtain ⟨t, y, h1, h3, h4⟩ := red _ _ he
      refine ⟨?_, by rw [h4, noobl t y h1]; trivial⟩
      rw [h3]
      rw [hx] at h1
      unfold semLen at h1
      split at h1 <;> first
        | contradiction
        | (rename_i w; cases w; done)
        | (rename_i w _; cases w; done)
        | skip
      rename_i w
      cases w
      simp only [Option.some.injEq] at h1
      subst h1
      simp [g1]
    · exact ⟨_, h, plain⟩
  · rename_i q lo ln cap hx
    split at h
    · rename_i sz es fz α cc l hob
      obtain ⟨g1, h⟩ := g_chk h
      refine ⟨_, h, enough_val rfl fun e he => ?_⟩
      obtain ⟨t, y, h1, h3, h4⟩ := red _ _ he
      refine ⟨?_, by rw [h4, noobl t y h1]; trivial⟩
      rw [h3]
      rw [hx] at h1
      unfold semLen at h1
      split at h1 <;> first
        | contradiction
        | (rename_i w _; cases w; done)
        | (rename_i w; cases w; done)
        | skip
      rename_i w
      cases w
      rw [hob] at h1
      simp only [Option.some.injEq] at h1
      subst h1
      simp [g1]
    · exact ⟨_, h, plain⟩
  · exact ⟨_, h, plain⟩
end
end Go.Ab
