/-
  A LAYER OVER THE KIT's 'Code.wp' (part 16): an operation's effect hangs on its operands, and on the objects that these lead to, alone.
  Conditions: none. No project text.
-/
import Derived.Test.YtgefhpoejihneaaAb15
namespace Go.Ab
set_option linter.unusedVariables false
set_option linter.unusedSimpArgs false

theorem mem_idsL {r : Nat} : ∀ {l : List A}, r ∈ A.idsL l ↔ ∃ x, x ∈ l ∧ r ∈ A.ids x
  | [] => by simp [A.idsL]
  | y :: l => by simp [A.idsL, mem_idsL (l := l)]

mutual
theorem rows_ids {r : Nat} : ∀ {x : A}, r ∈ A.rows x → r ∈ A.ids x
  | .d x, h => by simp [A.rows] at h
  | .agg cs, h => by simp only [A.rows] at h; simp only [A.ids]; exact rowsL_ids h
  | .tup cs, h => by simp only [A.rows] at h; simp only [A.ids]; exact rowsL_ids h
  | .ptr q i j, h => by simp [A.rows] at h
  | .pp c j, h => by simp [A.rows] at h
  | .msl q lo ln cap, h => by simpa [A.rows, A.ids] using h
  | .map q, h => by simp [A.rows] at h
  | .iter q, h => by simp [A.rows] at h
  | .fn f p q, h => by
    simp only [A.rows, List.mem_append] at h
    simp only [A.ids, List.mem_append]
    exact h.imp rowsL_ids rowsL_ids
  | .iface t x, h => by simp only [A.rows] at h; simp only [A.ids]; exact rows_ids h
  | .dead, h => by simp [A.rows] at h
theorem rowsL_ids {r : Nat} : ∀ {l : List A}, r ∈ A.rowsL l → r ∈ A.idsL l
  | [], h => by simp [A.rowsL] at h
  | x :: l, h => by
    simp only [A.rowsL, List.mem_append] at h
    simp only [A.idsL, List.mem_append]
    exact h.imp rows_ids rowsL_ids
end

mutual
theorem toD_congr {obs obs' : Nat → Option Ob} : ∀ (x : A), (∀ r, r ∈ A.ids x → obs r = obs' r) → A.toD obs x = A.toD obs' x
  | .d x, h => by simp [A.toD]
  | .agg cs, h => by simp only [A.toD]; rw [toDs_congr cs fun r hr => h r (by simpa [A.ids] using hr)]
  | .tup cs, h => by simp [A.toD]
  | .ptr q i j, h => by simp [A.toD]
  | .pp c j, h => by simp [A.toD]
  | .msl q lo ln cap, h => by simp only [A.toD]; rw [h q (by simp [A.ids])]
  | .map q, h => by simp [A.toD]
  | .iter q, h => by simp [A.toD]
  | .fn f [] [], h => by simp [A.toD]
  | .fn f (y :: ys) q, h => by simp [A.toD]
  | .fn f [] (y :: ys), h => by simp [A.toD]
  | .iface t x, h => by simp only [A.toD]; rw [toD_congr x fun r hr => h r (by simpa [A.ids] using hr)]
  | .dead, h => by simp [A.toD]
theorem toDs_congr {obs obs' : Nat → Option Ob} : ∀ (l : List A), (∀ r, r ∈ A.idsL l → obs r = obs' r) → A.toDs obs l = A.toDs obs' l
  | [], h => by simp [A.toDs]
  | x :: l, h => by
    simp only [A.toDs]
    rw [toD_congr x fun r hr => h r (by simp [A.idsL, hr]), toDs_congr l fun r hr => h r (by simp [A.idsL, hr])]
end

mutual
theorem lend_congr {obs obs' : Nat → Option Ob} {m : List Nat} : ∀ (x : A), (∀ r, r ∈ A.ids x → obs r = obs' r) → A.lend obs m x = A.lend obs' m x
  | .d x, h => by simp [A.lend]
  | .agg cs, h => by simp only [A.lend]; rw [lends_congr cs fun r hr => h r (by simpa [A.ids] using hr)]
  | .tup cs, h => by simp only [A.lend]; rw [lends_congr cs fun r hr => h r (by simpa [A.ids] using hr)]
  | .ptr q i j, h => by simp only [A.lend]
  | .pp c j, h => by simp [A.lend]
  | .msl q lo ln cap, h => by simp only [A.lend]; rw [h q (by simp [A.ids])]
  | .map q, h => by simp only [A.lend]
  | .iter q, h => by simp only [A.lend]
  | .fn f p q, h => by
    simp only [A.lend]
    rw [lends_congr p fun r hr => h r (by simp [A.ids, hr]), lends_congr q fun r hr => h r (by simp [A.ids, hr])]
  | .iface t x, h => by simp only [A.lend]; rw [lend_congr x fun r hr => h r (by simpa [A.ids] using hr)]
  | .dead, h => by simp [A.lend]
theorem lends_congr {obs obs' : Nat → Option Ob} {m : List Nat} : ∀ (l : List A), (∀ r, r ∈ A.idsL l → obs r = obs' r) → A.lends obs m l = A.lends obs' m l
  | [], h => by simp [A.lends]
  | x :: l, h => by
    simp only [A.lends]
    rw [lend_congr x fun r hr => h r (by simp [A.idsL, hr]), lends_congr l fun r hr => h r (by simp [A.idsL, hr])]
end

theorem mem_boxIds {obs : Nat → Option Ob} {m : List Nat} {r q : Nat} {cs : List A} (hq : q ∈ m) (ho : obs q = some (.box cs)) (hr : r ∈ A.idsL cs) : r ∈ boxIds obs m :=
  List.mem_flatMap.2 ⟨q, hq, by rw [ho]; exact hr⟩

theorem lendObs_congr {obs obs' : Nat → Option Ob} {m : List Nat} : ∀ (rs : List Nat) (i : Nat), (∀ r, r ∈ rs → obs r = obs' r) → (∀ r, r ∈ boxIds obs rs → obs r = obs' r) → lendObs obs m i rs = lendObs obs' m i rs
  | [], i, h, hb => rfl
  | r :: rs, i, h, hb => by
    simp only [lendObs]
    rw [← h r List.mem_cons_self]
    cases ho : obs r with
    | none => rfl
    | some o =>
      have e1 : lendOb obs m o = lendOb obs' m o := by
        cases o with
        | box cs => simp only [lendOb]; rw [lends_congr cs fun q hq => hb q (mem_boxIds List.mem_cons_self ho hq)]
        | _ => rfl
      simp only []
      rw [e1, lendObs_congr rs (i + 1) (fun q hq => h q (List.mem_cons_of_mem _ hq)) fun q hq => hb q (by
        simp only [boxIds, List.flatMap_cons, List.mem_append]
        exact .inr hq)]

theorem frz_congr {obs obs' : Nat → Option Ob} : ∀ (l : List Nat), (∀ r, r ∈ l → obs r = obs' r) → frz obs l = frz obs' l
  | [], h => rfl
  | x :: l, h => by
    simp only [frz]
    rw [h x List.mem_cons_self, frz_congr l fun r hr => h r (List.mem_cons_of_mem _ hr)]

theorem view_congr {obs obs' : Nat → Option Ob} {h : Hint} (x : A) (ho : ∀ r, r ∈ A.ids x → obs r = obs' r) : view obs h x = view obs' h x := by
  cases x with
  | ptr r i j => simp only [view]; rw [ho r (by simp [A.ids])]
  | _ => rfl
theorem source_congr {obs obs' : Nat → Option Ob} (x : A) (ho : ∀ r, r ∈ A.ids x → obs r = obs' r) : source obs x = source obs' x := by
  cases x with
  | msl r lo ln cap => simp only [source]; rw [ho r (by simp [A.ids])]
  | d y => cases y with
    | v v => cases v with
      | slice p n c => cases p <;> rfl
      | _ => rfl
    | _ => rfl
  | _ => rfl
theorem semLen_congr {P : Program} {t : TypeId} {obs obs' : Nat → Option Ob} (x : A) (ho : ∀ r, r ∈ A.ids x → obs r = obs' r) : semLen P t obs x = semLen P t obs' x := by
  unfold semLen
  cases hu : P.underlying t with
  | none => rfl
  | some d =>
    cases x with
    | msl r lo ln cap => cases d <;> first | rfl | simp only [ho r (by simp [A.ids])]
    | map r => cases d <;> first | rfl | simp only [ho r (by simp [A.ids])]
    | d y => cases d <;> first | rfl | (cases y with
      | v v => cases v with
        | slice p n c => cases p <;> first | rfl | (cases n <;> first | rfl | (cases c <;> rfl))
        | _ => rfl
      | _ => rfl)
    | _ => cases d <;> rfl
theorem semSlice_congr {P : Program} {t : TypeId} {h : Hint} {obs obs' : Nat → Option Ob} (x : A) (l hh m : Option A) (ho : ∀ r, r ∈ A.ids x → obs r = obs' r) : semSlice P t h obs x l hh m = semSlice P t h obs' x l hh m := by
  unfold semSlice
  split
  · cases hu : P.underlying t with
    | none => rfl
    | some d =>
      cases x with
      | msl r lo ln cap => cases d <;> first | rfl | simp only [ho r (by simp [A.ids])]
      | d y => cases d <;> first | rfl | (cases y with
        | v v => cases v <;> rfl
        | _ => rfl)
      | _ => cases d <;> rfl
  · rfl
theorem semAppend_congr {P : Program} {t : TypeId} {h : Hint} {obs obs' : Nat → Option Ob} (x y : A) (ho : ∀ r, r ∈ A.ids x ∨ r ∈ A.ids y → obs r = obs' r) : semAppend P t h obs x y = semAppend P t h obs' x y := by
  unfold semAppend
  rw [source_congr y fun r hr => ho r (.inr hr)]
  cases x with
  | msl r lo ln cap => simp only []; rw [ho r (.inl (by simp [A.ids]))]
  | d z => cases z with
    | v v => cases v with
      | slice p n c => cases p <;> first | rfl | (cases n <;> first | rfl | (cases c <;> rfl))
      | _ => rfl
    | _ => rfl
  | _ => rfl
theorem flatMap_same {α β : Type} {f g : α → List β} : ∀ (l : List α), (∀ x, x ∈ l → f x = g x) → l.flatMap f = l.flatMap g
  | [], h => rfl
  | x :: l, h => by rw [List.flatMap_cons, List.flatMap_cons, h x List.mem_cons_self, flatMap_same l fun y hy => h y (List.mem_cons_of_mem _ hy)]
theorem semCall_congr {P : Program} {id : FuncId} {h : Hint} {obs obs' : Nat → Option Ob} (args : List A) (ho : ∀ r, r ∈ A.idsL args → obs r = obs' r) (hm : ∀ r, r ∈ h.m → obs r = obs' r) (hb : ∀ r, r ∈ boxIds obs h.m → obs r = obs' r) :
    semCall P id args h obs = semCall P id args h obs' := by
  simp only [semCall]
  rw [lends_congr args ho, lendObs_congr h.m 0 hm hb]
  have e1 : borrowed obs h.m args = borrowed obs' h.m args := by
    unfold borrowed
    refine congrArg (List.filter _) (congrArg (fun x => A.rowsL args ++ x) (flatMap_same _ fun r hr => ?_))
    rw [hm r hr]
  have e2 : frz obs (borrowed obs h.m args) = frz obs' (borrowed obs h.m args) := frz_congr _ fun r hr => by
    simp only [borrowed, List.mem_filter, List.mem_append] at hr
    rcases hr.1 with h1 | h1
    · exact ho r (rowsL_ids h1)
    · obtain ⟨q, hq, hr'⟩ := List.mem_flatMap.1 h1
      cases hoq : obs q with
      | none => rw [hoq] at hr'; simp at hr'
      | some o =>
        rw [hoq] at hr'
        cases o with
        | box cs => exact hb r (mem_boxIds hq hoq (rowsL_ids hr'))
        | _ => simp at hr'
  rw [e2, e1]

theorem cells_ids {x : A} {cs : List A} (h : x.cells? = some cs) {r : Nat} (hr : r ∈ A.idsL cs) : r ∈ A.ids x := by
  have one : [x] = cs → r ∈ A.ids x := fun e => by subst e; simpa [A.idsL] using hr
  cases x with
  | agg l => simp only [A.cells?, Option.some.injEq] at h; subst h; simpa [A.ids] using hr
  | d x =>
    cases x with
    | agg l =>
      simp only [A.cells?, Option.some.injEq] at h
      subst h
      obtain ⟨y, hy, hr⟩ := mem_idsL.1 hr
      obtain ⟨z, _, rfl⟩ := List.mem_map.1 hy
      simp [A.ids] at hr
    | _ => simp only [A.cells?, Option.some.injEq] at h; exact one h
  | tup l => simp [A.cells?] at h
  | dead => simp [A.cells?] at h
  | _ => simp only [A.cells?, Option.some.injEq] at h; exact one h

theorem ofVal_ids (v : Value) (r : Nat) : r ∉ A.ids (ofVal v) := by
  have f : ∀ v : Value, r ∉ A.ids (bif flat v then .d (.v v) else .dead) := fun v => by cases flat v <;> simp [A.ids]
  cases v with
  | agg cs =>
    simp only [ofVal, A.ids]
    intro h
    obtain ⟨x, hx, hr⟩ := mem_idsL.1 h
    obtain ⟨y, _, rfl⟩ := List.mem_map.1 hx
    exact f y hr
  | _ => first | exact f (.bool _) | exact f (.int _ _) | exact f (.float _ _) | exact f (.complex _ _ _) | exact f (.string _) | exact f (.pointer _) | exact f (.slice _ _ _) | exact f (.map _) | exact f (.chan _) | exact f (.func _ _ _) | exact f .nilFunc | exact f (.iface _ _) | exact f .nilIface | exact f (.tuple _)
theorem zeroA_ids {P : Program} {t : TypeId} {z : List A} (hz : zeroA P t = some z) (r : Nat) : r ∉ A.idsL z := by
  unfold zeroA at hz
  split at hz
  · rename_i v _
    exact fun hr => ofVal_ids v r (cells_ids hz hr)
  · cases hz

theorem splice_mem {α : Type} {l : List α} {j : Nat} {vs : List α} {x : α} (h : x ∈ splice l j vs) : x ∈ l ∨ x ∈ vs := by
  unfold splice at h
  split at h
  · rcases List.mem_or_eq_of_mem_set h with h | h
    · exact .inl h
    · exact .inr (by simp [h])
  · simp only [List.mem_append] at h
    rcases h with (h | h) | h
    · exact .inl (List.mem_of_mem_take h)
    · exact .inr h
    · exact .inl (List.mem_of_mem_drop h)

theorem fillA_ids {place : Nat → Option (Nat × Nat)} {r : Nat} : ∀ (parts : List (Nat × A)) (cs out : List A), fillA place cs parts = some out → r ∈ A.idsL out → r ∈ A.idsL cs ∨ r ∈ A.idsL (parts.map (·.2))
  | [], cs, out, h, hr => by simp only [fillA, Option.some.injEq] at h; subst h; exact .inl hr
  | (i, v) :: rest, cs, out, h, hr => by
    simp only [fillA] at h
    split at h
    · rename_i off size vs hp hvs
      cases hb : Nat.beq vs.length size && Nat.ble (off + vs.length) cs.length with
      | false => rw [hb] at h; cases h
      | true =>
        rw [hb] at h
        simp only [cond_true] at h
        rcases fillA_ids rest _ _ h hr with h1 | h1
        · obtain ⟨x, hx, hrx⟩ := mem_idsL.1 h1
          rcases splice_mem hx with h2 | h2
          · exact .inl (mem_idsL.2 ⟨x, h2, hrx⟩)
          · refine .inr ?_
            simp only [List.map_cons, A.idsL, List.mem_append]
            exact .inl (cells_ids hvs (mem_idsL.2 ⟨x, h2, hrx⟩))
        · exact .inr (by simp only [List.map_cons, A.idsL, List.mem_append]; exact .inr h1)
    · cases h

theorem toDss_congr {obs obs' : Nat → Option Ob} : ∀ (rs : List (List A)), (∀ c, c ∈ rs → ∀ r, r ∈ A.idsL c → obs r = obs' r) → toDss obs rs = toDss obs' rs
  | [], h => rfl
  | x :: l, h => by
    simp only [toDss]
    rw [toDs_congr x (h x List.mem_cons_self), toDss_congr l fun c hc => h c (List.mem_cons_of_mem _ hc)]

theorem map_parts {ρ ρ' : Operand → A} (ps : List (Nat × Operand)) (h : ∀ x, x ∈ ps.map (·.2) → ρ x = ρ' x) : (ps.map fun x => (x.1, ρ x.2)) = ps.map fun x => (x.1, ρ' x.2) :=
  List.map_congr_left fun x hx => by rw [h x.2 (List.mem_map.2 ⟨x, hx, rfl⟩)]

theorem opt_map {ρ ρ' : Operand → A} (x : Option Operand) (h : ∀ y, y ∈ x.toList → ρ y = ρ' y) : x.map ρ = x.map ρ' := by
  cases x with
  | none => rfl
  | some y => simp [h y (by simp)]

theorem sem_ops {P : Program} {op : Op} {h : Hint} {ρ ρ' : Operand → A} {obs : Nat → Option Ob} {xs : List Operand} (hx : opnds op = some xs) (hρ : ∀ x, x ∈ xs → ρ x = ρ' x) : sem P op h ρ obs = sem P op h ρ' obs := by
  cases op <;> simp only [opnds, Option.some.injEq, reduceCtorEq] at hx
  case pick c a b => subst hx; simp only [sem]; rw [hρ c (by simp), hρ a (by simp), hρ b (by simp)]
  case alloc t => rfl
  case build t ps =>
    subst hx
    simp only [sem]
    rw [map_parts _ hρ]
  case buildSlice t n ps =>
    subst hx
    simp only [sem]
    rw [map_parts _ hρ]
  case slice t x l hh m =>
    subst hx
    simp only [sem]
    rw [hρ x (by simp), opt_map l fun y hy => hρ y (by simp [hy]), opt_map hh fun y hy => hρ y (by simp [hy]), opt_map m fun y hy => hρ y (by simp [hy])]
  case call c =>
    simp only [sem]
    cases hc : c.callee with
    | value f =>
      rw [hc] at hx
      simp only [Option.some.injEq] at hx
      subst hx
      simp only []
      rw [hρ f (by simp), List.map_congr_left (f := ρ) (g := ρ') fun x hx => hρ x (by simp [hx])]
    | builtin b =>
      rw [hc] at hx
      simp only [Option.some.injEq] at hx
      subst hx
      rw [List.map_congr_left (f := ρ) (g := ρ') fun x hx => hρ x hx]
      cases b <;> rfl
    | invoke r m => simp [hc] at hx
  all_goals (first
    | rfl
    | (subst hx
       have h1 := hρ _ List.mem_cons_self
       have h2 := hρ _ (List.mem_cons_of_mem _ List.mem_cons_self)
       simp only [sem]
       simp only [h1, h2])
    | (subst hx
       have h1 := hρ _ List.mem_cons_self
       simp only [sem]
       simp only [h1]))

theorem sem_obs {P : Program} {op : Op} {h : Hint} {ρ : Operand → A} {obs obs' : Nat → Option Ob} {xs : List Operand} (hx : opnds op = some xs) (ho : ∀ r, r ∈ A.idsL (xs.map ρ) → obs r = obs' r) (hm : ∀ r, r ∈ h.m → obs r = obs' r) (hb : ∀ r, r ∈ boxIds obs h.m → obs r = obs' r) : sem P op h ρ obs = sem P op h ρ obs' := by
  have ho' : ∀ x, x ∈ xs → ∀ r, r ∈ A.ids (ρ x) → obs r = obs' r := fun x hx r hr => ho r (mem_idsL.2 ⟨ρ x, List.mem_map.2 ⟨x, hx, rfl⟩, hr⟩)
  cases op <;> simp only [opnds, Option.some.injEq, reduceCtorEq] at hx
  case load t x => subst hx; simp only [sem]; rw [view_congr _ (ho' x (by simp))]
  case store t x v =>
    subst hx
    simp only [sem]
    have h1 := ho' x (by simp)
    have h2 := ho' v (by simp)
    cases hv : (ρ v).cells? with
    | none => rfl
    | some vs =>
      have e1 : A.toDs obs vs = A.toDs obs' vs := toDs_congr vs fun r hr => h2 r (cells_ids hv hr)
      have e2 : frz obs (A.rowsL vs) = frz obs' (A.rowsL vs) := frz_congr _ fun r hr => h2 r (cells_ids hv (rowsL_ids hr))
      cases szT P t with
      | none => rfl
      | some n =>
        simp only [e1, e2]
        cases hp : ρ x with
        | ptr r i j => rw [hp] at h1; simp only [h1 r (by simp [A.ids])]
        | _ => rfl
  case indexAddr t x ix =>
    subst hx
    simp only [sem]
    have h1 := ho' x (by simp)
    generalize hX : ρ x = X at h1
    generalize ρ ix = Y
    cases hu : P.underlying t with
    | none => rfl
    | some d =>
      cases X with
      | msl r lo ln cap =>
        cases d <;> first | rfl | (cases Y with
          | d y => cases y with
            | v v => cases v <;> first | rfl | simp only [h1 r (by simp [A.ids])]
            | _ => rfl
          | _ => rfl)
      | d z => cases d <;> first | rfl | (cases z <;> first | rfl | (cases Y with
          | d y => cases y with
            | v v => cases v <;> rfl
            | _ => rfl
          | _ => rfl))
      | _ => cases d <;> first | rfl | (cases Y with
          | d y => cases y with
            | v v => cases v <;> rfl
            | _ => rfl
          | _ => rfl)
  case slice t x l hh m => subst hx; simp only [sem]; rw [semSlice_congr _ _ _ _ (ho' x (by simp))]
  case buildSlice t n ps =>
    subst hx
    simp only [sem]
    cases hl0 : Nat.beq n 0 with
    | true => rfl
    | false =>
    simp only [cond_false]
    split
    · rename_i el hu
      split
      · rename_i z k hz hk
        split
        · rename_i cs hcs
          have hids : ∀ r, r ∈ A.idsL cs → obs r = obs' r := fun r hr => by
            rcases fillA_ids _ _ _ hcs hr with h1 | h1
            · exfalso
              obtain ⟨x, hx, hrx⟩ := mem_idsL.1 h1
              obtain ⟨l, hl, hxl⟩ := List.mem_flatten.1 hx
              rw [List.eq_of_mem_replicate hl] at hxl
              exact zeroA_ids hz r (mem_idsL.2 ⟨x, hxl, hrx⟩)
            · refine ho r ?_
              rw [List.map_map] at h1
              rw [List.map_map]
              exact h1
          split
          · rename_i rs hrs
            have e3 : toDss obs rs = toDss obs' rs := toDss_congr rs fun c hc r hr => by
              obtain ⟨i, hi, rfl⟩ := List.getElem_of_mem hc
              rw [rowsOf_get hrs (List.getElem?_eq_getElem hi)] at hr
              obtain ⟨x, hx, hrx⟩ := mem_idsL.1 hr
              exact hids r (mem_idsL.2 ⟨x, List.mem_of_mem_drop (List.mem_of_mem_take hx), hrx⟩)
            have e4 : frz obs (A.rowsL cs) = frz obs' (A.rowsL cs) := frz_congr (A.rowsL cs) fun r hr => hids r (rowsL_ids hr)
            rw [e3, e4]
          · rfl
        · rfl
      · rfl
    · rfl
  case call c =>
    simp only [sem]
    cases hc : c.callee with
    | value f =>
      rw [hc] at hx
      simp only [Option.some.injEq] at hx
      subst hx
      simp only []
      split
      · rename_i id first cap hf
        refine semCall_congr _ (fun r hr => ?_) hm hb
        obtain ⟨x, hx, hrx⟩ := mem_idsL.1 hr
        simp only [List.mem_append] at hx
        rcases hx with (hx | hx) | hx
        · exact ho' f (by simp) r (by rw [hf]; simp only [A.ids, List.mem_append]; exact .inl (mem_idsL.2 ⟨x, hx, hrx⟩))
        · obtain ⟨y, hy, rfl⟩ := List.mem_map.1 hx
          exact ho' y (by simp [hy]) r hrx
        · exact ho' f (by simp) r (by rw [hf]; simp only [A.ids, List.mem_append]; exact .inr (mem_idsL.2 ⟨x, hx, hrx⟩))
      · rfl
    | builtin b =>
      rw [hc] at hx
      simp only [Option.some.injEq] at hx
      subst hx
      cases b with
      | append =>
        simp only []
        split
        · rename_i t t2 x1 x2 _ hargs
          split
          · refine semAppend_congr _ _ fun r hr => ho r ?_
            rw [hargs]
            simp only [A.idsL, List.mem_append, List.append_nil]
            exact hr
          · rfl
        · rfl
      | len =>
        simp only []
        split
        · rename_i t x _ hargs
          rw [semLen_congr x fun r hr => ho r (by rw [hargs]; simpa [A.idsL] using hr)]
        · rfl
      | _ => rfl
    | invoke r m => simp [hc] at hx
  all_goals (first | rfl | (subst hx; rfl))
end Go.Ab
