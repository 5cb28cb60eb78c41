/-
  A LAYER OVER THE KIT's 'Code.wp' (part 19): from a function's body to its contract.
  Conditions: none. No project text.
-/
import Derived.Test.YtgefhpoejihneaaAb18
namespace Go.Ab
set_option linter.unusedVariables false
set_option linter.unusedSimpArgs false

def enumT : Nat → List A → Tmps
  | _, [] => []
  | i, x :: l => (i, x) :: enumT (i + 1) l

theorem enumT_get : ∀ (l : List A) (i t : Nat), (∃ x, t = i + x ∧ ∃ y, l[x]? = some y ∧ getT (enumT i l) t = y) ∨ getT (enumT i l) t = .dead
  | [], i, t => .inr rfl
  | x :: l, i, t => by
    rw [enumT, getT_cons]
    by_cases e : i = t
    · rw [if_pos e]; exact .inl ⟨0, by omega, x, rfl, rfl⟩
    · rw [if_neg e]
      rcases enumT_get l (i + 1) t with ⟨j, h1, y, h2, h3⟩ | h
      · exact .inl ⟨j + 1, by omega, y, by simpa using h2, h3⟩
      · exact .inr h

/-- A function's results, at its end. -/
def resOf (P : Program) (s : St) : List ResultVar → Option (List A)
  | [] => some []
  | .tmp t :: r => match resOf P s r with
    | some l => some (getT s.T t :: l)
    | none => none
  | .cell a t :: r => match getT s.T a, aggT P t, szT P t, resOf P s r with
    | .ptr q 0 0, some true, some n, some l => match getH s.H q with
      | some (.box cs) => bif Nat.beq cs.length n then some (.agg cs :: l) else none
      | _ => none
    | .ptr q 0 0, some false, some _, some l => match getH s.H q with
      | some (.box [x]) => some (x :: l)
      | _ => none
    | _, _, _, _ => none

def resM (tmps : Array Value) : ResultVar → Sem Value
  | .tmp t => pure (tmps.getD t undef)
  | .cell a t => do loadVar t (← asAddr (tmps.getD a undef))

def tie : List A → A
  | [x] => x
  | l => .tup l

section
variable {P : Program} {F : Nat → Nat → Prop} {w0 : World} {M0 : Nat → Nat → Prop} {ι0 : Nat → Loc} {s : St} {ι : Nat → Loc} {a : Act} {w : World}

theorem res_run (R : Rel F w0 M0 ι0 s ι a w) : ∀ (l : List ResultVar) (rs : List A), resOf P s l = some rs →
    ∃ vs : List Value, (l.mapM (resM a.tmps)).run P w = Result.ok vs w ∧ vs.length = rs.length ∧
      ∀ (i : Nat) (v : Value) (x : A), vs[i]? = some v → rs[i]? = some x → RV w (Im F s.H ι) ι v x
  | [], rs, h => by
    simp only [resOf, Option.some.injEq] at h
    subst h
    exact ⟨[], by simp, rfl, fun i v x hv => by simp at hv⟩
  | .tmp t :: l, rs, h => by
    simp only [resOf] at h
    split at h
    · rename_i rs' h1
      simp only [Option.some.injEq] at h
      subst h
      obtain ⟨vs, k1, k2, k3⟩ := res_run R l rs' h1
      refine ⟨a.tmps.getD t undef :: vs, by simp [List.mapM_cons, resM, k1], by simp [k2], fun i v x hv hx => ?_⟩
      cases i with
      | zero => simp only [List.getElem?_cons_zero, Option.some.injEq] at hv hx; subst hv; subst hx; exact R.tmp t
      | succ i => exact k3 i v x (by simpa using hv) (by simpa using hx)
    · cases h
  | .cell c t :: l, rs, h => by
    simp only [resOf] at h
    have key : ∀ (q : Nat) (cs : List A) (u : A) (rs' : List A), getT s.T c = .ptr q 0 0 → getH s.H q = some (.box cs) → resOf P s l = some rs' → rs = u :: rs' →
        (∀ b o, Cells w (Im F s.H ι) ι b o cs → ∃ v, (loadVar t ⟨b, o, none⟩).run P w = .ok v w ∧ RV w (Im F s.H ι) ι v u) →
        ∃ vs : List Value, ((ResultVar.cell c t :: l).mapM (resM a.tmps)).run P w = Result.ok vs w ∧ vs.length = rs.length ∧ ∀ (i : Nat) (v : Value) (x : A), vs[i]? = some v → rs[i]? = some x → RV w (Im F s.H ι) ι v x := fun q cs u rs' e1 e2 e3 e4 e5 => by
      obtain ⟨vs, k1, k2, k3⟩ := res_run R l rs' e3
      have hx := R.tmp c
      rw [e1] at hx
      obtain ⟨b, o, hp, hc⟩ := view_cells (h := {}) R (p := .ptr q 0 0) (cs := cs) (j := 0) (ob := []) (by simp [view, e2]) trivial hx
      obtain ⟨v, m1, m2⟩ := e5 b o hc
      have hld : (resM a.tmps (.cell c t)).run P w = Result.ok v w := by
        simp only [resM]
        rw [hp]
        simp [asAddr, m1]
      subst e4
      refine ⟨v :: vs, by simp only [List.mapM_cons, Sem.run_bind, Sem.run_pure, Result.andThen_ok, hld, k1], by simp [k2], fun i v' x hv hx => ?_⟩
      cases i with
      | zero => simp only [List.getElem?_cons_zero, Option.some.injEq] at hv hx; subst hv; subst hx; exact m2
      | succ i => exact k3 i v' x (by simpa using hv) (by simpa using hx)
    split at h
    · rename_i q n l' e1 h1 h2 h3
      split at h
      · rename_i cs hob
        cases hb : Nat.beq cs.length n with
        | false => rw [hb] at h; cases h
        | true =>
          rw [hb] at h
          simp only [cond_true, Option.some.injEq] at h
          exact key q cs (.agg cs) l' e1 hob h3 h.symm fun b o hc => load_agg h1 h2 hc (beq_true hb)
      · cases h
    · rename_i q n l' e1 h1 h2 h3
      split at h
      · rename_i x hob
        simp only [Option.some.injEq] at h
        refine key q [x] x l' e1 hob h3 h.symm fun b o hc => ?_
        obtain ⟨u, e2, e3⟩ := hc 0 x rfl
        exact ⟨u, load_one h1 (by simpa using e2), e3⟩
      · cases h
    · cases h

theorem results_run (R : Rel F w0 M0 ι0 s ι a w) {fn : Func} {rs : List A} (h : resOf P s fn.results.toList = some rs) : ∃ v, (results fn a.tmps).run P w = .ok v w ∧ RV w (Im F s.H ι) ι v (tie rs) := by
  obtain ⟨vs, k1, k2, k3⟩ := res_run R _ _ h
  refine ⟨if h : vs.toArray.size = 1 then vs.toArray[0] else .tuple vs.toArray, ?_, ?_⟩
  · rw [show results fn a.tmps = (do let vs ← fn.results.mapM (resM a.tmps); pure (if h : vs.size = 1 then vs[0] else .tuple vs)) by
      unfold results
      congr 1]
    rw [Array.mapM_eq_mapM_toList]
    simp [k1]
  · cases vs with
    | nil =>
      cases rs with
      | nil => exact .tup _ _ rfl fun i v x hv => by simp at hv
      | cons x rs => simp at k2
    | cons v vs =>
      cases rs with
      | nil => simp at k2
      | cons x rs =>
        cases vs with
        | nil =>
          cases rs with
          | nil => exact k3 0 v x rfl rfl
          | cons y rs => simp at k2
        | cons u vs =>
          cases rs with
          | nil => simp at k2
          | cons y rs =>
            simp only [List.size_toArray, List.length_cons, Nat.add_eq_right, Nat.add_eq_zero_iff, Nat.one_ne_zero, and_false, tie]
            refine .tup _ _ (by simpa using k2) fun i v x hv hx => k3 i v x (by simpa using hv) hx
end

section
variable {P : Program}

/-- FROM A BODY TO A CONTRACT. -/
theorem acalls_of {f : FuncId} {fn : Func} {c : Code} {args : List A} {p : Nat} {H : Heap} {e : Exit} {s' : St} {rs : List A} {r : A} {H' : Heap} (hf : P.funcs[f]? = some fn) (hb : fn.body = some c) (hn : Nat.ble args.length fn.ntmps = true)
    (h : Runs P c ⟨fn.ntmps, p, enumT 0 args, H⟩ e s') (he : e = .ret ∨ e = .normal) (hp : s'.p = p) (hr : resOf P s' fn.results.toList = some rs) (hr' : tie rs = r) (hH : s'.H = H') : ACallsD P f p args H r H' := by
  subst hr'; subst hH
  intro F w ι vs hpre
  refine calls_of_wp hf hb ?_
  have hle : args.length ≤ fn.ntmps := Nat.le_of_ble_eq_true hn
  have R : Rel F w (Mut H ι) ι ⟨fn.ntmps, p, enumT 0 args, H⟩ ι { tmps := vs ++ Array.replicate (fn.ntmps - vs.size) undef, defers := [] } w := by
    refine ⟨by simp [hpre.n]; omega, rfl, fun t => ?_, hpre.obj, hpre.apart, .refl _ _, fun b o h => .inr h, fun k _ => rfl, hpre.foreign, hpre.apartF⟩
    rcases enumT_get args 0 t with ⟨j, h1, y, h2, h3⟩ | h
    · rw [h3]
      obtain rfl : j = t := by omega
      have hj : j < vs.size := by rw [hpre.n]; exact (List.getElem?_eq_some_iff.1 h2).1
      refine hpre.arg j _ y ?_ h2
      rw [Array.getElem?_eq_getElem hj]
      simp [Array.getD_eq_getD_getElem?, Array.getElem?_append_left hj, Array.getElem?_eq_getElem hj]
    · rw [h]; exact .dead _
  refine wp_mono (h F w (Mut H ι) ι ι _ w R) fun e' a' w' h' => ?_
  obtain ⟨rfl, ι', R'⟩ := h'
  · obtain ⟨v, h1, h2⟩ := results_run R' hr
    have post : Post F w ι H p w' ι' s'.H v (tie rs) := ⟨h2, R'.obj, R'.apart, R'.evo, R'.own, fun k hk => R'.pin k (by rw [hp]; exact hk), R'.apartF⟩
    rcases he with rfl | rfl
    · exact ⟨R'.defers, v, h1, ⟨v, tie rs, s'.H, ι', rfl, ⟨rfl, rfl⟩, post⟩⟩
    · exact ⟨R'.defers, v, h1, ⟨v, tie rs, s'.H, ι', rfl, ⟨rfl, rfl⟩, post⟩⟩

/-- what the evaluator does at once -/
theorem acalls_ev {f : FuncId} {fn : Func} {c : Code} {args : List A} {p : Nat} {H : Heap} {hs hs' : List PH} {e : Exit} {s' : St} {ob : List Prop} {rs : List A} {r : A} {H' : Heap} (hf : P.funcs[f]? = some fn) (hb : fn.body = some c) (hn : Nat.ble args.length fn.ntmps = true)
    (h : evalC P c hs ⟨fn.ntmps, p, enumT 0 args, H⟩ = some (e, s', hs', ob)) (ho : All ob) (he : e = .ret ∨ e = .normal) (hp : s'.p = p) (hr : resOf P s' fn.results.toList = some rs) (hr' : tie rs = r) (hH : s'.H = H') : ACallsD P f p args H r H' :=
  acalls_of hf hb hn (evalC_runs c hs _ _ _ _ _ h ho) he hp hr hr' hH
end
end Go.Ab
