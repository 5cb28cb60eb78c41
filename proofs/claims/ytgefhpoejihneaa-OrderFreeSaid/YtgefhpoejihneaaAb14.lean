/-
  A LAYER OVER THE KIT's 'Code.wp' (part 14): the evaluator is right about every operation.
  Conditions: none. No project text.
-/
import Derived.Test.YtgefhpoejihneaaAb13
namespace Go.Ab
set_option linter.unusedVariables false
set_option linter.unusedSimpArgs false

section
variable {P : Program} {F : Nat → Nat → Prop} {w0 : World} {M0 : Nat → Nat → Prop} {ι0 : Nat → Loc} {s : St} {ι : Nat → Loc} {a : Act} {w : World} {e : Eff}
  {dst : Option Tmp} {ty : TypeId} {pos : String} {after : Array Edge} {guard : Option (Nat × Bool)} {h : Hint}

theorem arr_two {α : Type} : ∀ (l : Array α), l.toList.length = 2 → ∃ x y, l = #[x, y]
  | ⟨[x, y]⟩, _ => ⟨x, y, rfl⟩
  | ⟨[]⟩, h => by simp at h
  | ⟨[x]⟩, h => by simp at h
  | ⟨x :: y :: z :: l⟩, h => by simp at h
theorem arr_one {α : Type} : ∀ (l : Array α), l.toList.length = 1 → ∃ x, l = #[x]
  | ⟨[x]⟩, _ => ⟨x, rfl⟩
  | ⟨[]⟩, h => by simp at h
  | ⟨x :: y :: l⟩, h => by simp at h

theorem rv_fn {I : Nat → Nat → Prop} {v : Value} {f : Fn} {p q : List A} (hv : RV w I ι v (.fn f p q)) : ∃ xs ys : Array Value, v = .func f xs ys ∧ RVs w I ι xs p ∧ RVs w I ι ys q := by
  cases hv with | fn f xs ys p q hn hm hr hs => exact ⟨xs, ys, rfl, ⟨hn, hr⟩, ⟨hm, hs⟩⟩

theorem RVs.append {I : Nat → Nat → Prop} {xs ys : Array Value} {p q : List A} (h : RVs w I ι xs p) (k : RVs w I ι ys q) : RVs w I ι (xs ++ ys) (p ++ q) := by
  refine ⟨by simp [h.1, k.1], fun i v x hv hx => ?_⟩
  by_cases hi : i < xs.size
  · rw [Array.getElem?_append_left hi] at hv
    rw [List.getElem?_append_left (by rw [← h.1]; exact hi)] at hx
    exact h.2 i v x hv hx
  · rw [Array.getElem?_append_right (by omega)] at hv
    rw [List.getElem?_append_right (by rw [← h.1]; omega), ← h.1] at hx
    exact k.2 _ v x hv hx
theorem RVs.map {I : Nat → Nat → Prop} {ρ : Operand → Value} {ρA : Operand → A} (hρ : ∀ x, RV w I ι (ρ x) (ρA x)) (l : Array Operand) : RVs w I ι (l.map ρ) (l.toList.map ρA) := by
  refine ⟨by simp, fun i v x hv hx => ?_⟩
  simp only [Array.getElem?_map, Option.map_eq_some_iff] at hv
  obtain ⟨y, hy, rfl⟩ := hv
  simp only [List.getElem?_map, Array.getElem?_toList, hy, Option.map_some, Option.some.injEq] at hx
  subst hx
  exact hρ y

theorem run_callFunc {id : FuncId} {args : Array Value} (hc : callable P id = true) : (callFunc id args).run P w = .ok (.enter id args) w := by
  unfold callable at hc
  cases hf : P.funcs[id]? with
  | none => rw [hf] at hc; cases hc
  | some fn =>
    rw [hf] at hc
    simp only [Bool.and_eq_true, Bool.not_eq_true'] at hc
    obtain ⟨h1, h2⟩ := hc
    have h3 : fn.body.isNone = false := by cases hb : fn.body <;> simp_all
    have h4 : ¬ fn.name = "runtime.NumGoroutine" := by simpa using h2
    have h5 : ¬ fn.body = none := by intro hb; rw [hb] at h1; cases h1
    simp [callFunc, hf, h4, h5]

theorem g_call {c : Call} {f : Operand} {id : FuncId} {first cap : List A} (hcal : c.callee = .value f) (hev : s.ev f = .fn (.func id) first cap) (R : Rel F w0 M0 ι0 s ι a w)
    (hs : semCall P id (first ++ c.args.toList.map s.ev ++ cap) h (getH s.H) = some e) (ho : All e.obl) (hf : ∀ k, k ∈ e.new → s.free k = true) : Goal P ⟨dst, .call c, ty, pos, after, guard⟩ F w0 M0 ι0 s a w e := by
  have hfv := ev_rv R f
  rw [hev] at hfv
  obtain ⟨xs, ys, e1, r1, r2⟩ := rv_fn hfv
  have hargs : RVs w (Im F s.H ι) ι (xs ++ c.args.map a.eval ++ ys) (first ++ c.args.toList.map s.ev ++ cap) := (r1.append (RVs.map (fun x => ev_rv R x) c.args)).append r2
  have hcall : callable P id = true := by
    have hs' := hs
    simp only [semCall] at hs'
    split at hs'
    · rename_i args' Hc fz _ _ _
      cases hb : callable P id && distinct h.m && distinct h.new && h.H.all (fun x => Nat.blt x.1 (h.m.length + h.new.length) && obBelow (h.m.length + h.new.length) x.2) && A.upTo (h.m.length + h.new.length) h.r with
      | false => rw [hb] at hs'; cases hs'
      | true => simp only [Bool.and_eq_true] at hb; exact hb.1.1.1.1
    · cases hs'
  intro next Q hK
  have hrun : (execOp a.eval ⟨dst, .call c, ty, pos, after, guard⟩).run P w = .ok (.enter id (xs ++ c.args.map a.eval ++ ys)) w := by
    simp [execOp, resolve, hcal, e1, Deferred.ofValue, invoke, run_callFunc hcall]
  unfold Oper.wp
  rw [hrun]
  simp only [Oper.upon]
  refine (call_rel R hs ho hf hargs).mono fun r w' hr => ?_
  obtain ⟨v, ι', rfl, R', hv⟩ := hr
  exact hK v w' ι' R' hv

theorem g_max {c : Call} {v : A} {big : Bool} (R : Rel F w0 M0 ι0 s ι a w) (hcal : c.callee = .builtin (bif big then .max else .min)) (hs : semMax big (c.args.toList.map s.ev) = some v) : Goal P ⟨dst, .call c, ty, pos, after, guard⟩ F w0 M0 ι0 s a w { res := v } := by
  unfold semMax at hs
  split at hs
  · rename_i k x k' y hargs
    simp only [Option.some.injEq] at hs
    subst hs
    obtain ⟨o1, o2, hca⟩ := arr_two c.args (by have := congrArg List.length hargs; simpa using this)
    rw [hca] at hargs
    simp only [List.map_cons, List.map_nil, List.cons.injEq, and_true] at hargs
    have h1 := ev_rv R o1
    have h2 := ev_rv R o2
    rw [hargs.1] at h1
    rw [hargs.2] at h2
    obtain ⟨e1, _⟩ := rv_v h1
    obtain ⟨e2, _⟩ := rv_v h2
    cases big with
    | true =>
      refine goal_pure R rfl (v := .int k (if y > x then y else x)) ?_ (rv_mk rfl)
      simp at hcal
      simp [execOp, resolve, hcal, invoke, builtin, hca, e1, e2, Builtin.max_, Builtin.max2]
    | false =>
      refine goal_pure R rfl (v := .int k (if y < x then y else x)) ?_ (rv_mk rfl)
      simp at hcal
      simp [execOp, resolve, hcal, invoke, builtin, hca, e1, e2, Builtin.min_, Builtin.min2]
  · cases hs

/-- THE EVALUATOR IS RIGHT about an operation. -/
theorem sem_goal {o : Oper} (R : Rel F w0 M0 ι0 s ι a w) (hs : sem P o.op h s.ev (getH s.H) = some e) (ho : All e.obl) (hf : ∀ k, k ∈ e.new → s.free k = true) : Goal P o F w0 M0 ι0 s a w e := by
  obtain ⟨dst, op, ty, pos, after, guard⟩ := o
  simp only at hs
  cases op with
  | move x => exact (q_move R hs ho).goal R
  | assign x => exact (q_assign R hs ho).goal R
  | pick c x y => exact (q_pick R hs ho).goal R
  | alloc t => exact g_alloc R hs ho hf
  | box t x => exact g_box R hs ho hf
  | build t ps => exact (q_build R hs ho).goal R
  | buildSlice t n ps => exact g_buildSlice R hs ho hf
  | load t x => exact (q_load R hs ho).goal R
  | store t x v => exact g_store R hs ho hf
  | nilCheck x => exact (q_nilCheck R hs ho).goal R
  | binOp op t x y t' => exact (q_bin R hs ho).goal R
  | unOp op t x => exact (q_un R hs ho).goal R
  | convert t t' x => exact (q_convert R hs ho).goal R
  | makeInterface t x => exact (q_iface R hs ho).goal R
  | makeFunc f p q => exact (q_func R hs ho).goal R
  | makeSlice t l c => exact g_makeSlice R hs ho hf
  | slice t x l hh m => exact (q_slice R hs ho).goal R
  | fieldAddr t x f => exact (q_fieldAddr R hs ho).goal R
  | field t x f => exact (q_field R hs ho).goal R
  | indexAddr t x i => exact (q_indexAddr R hs ho).goal R
  | index t x i => exact (q_index R hs ho).goal R
  | extract x i => exact (q_extract R hs ho).goal R
  | call c =>
    simp only [sem] at hs
    split at hs
    · rename_i f hcal
      split at hs
      · rename_i id first cap hev
        exact g_call hcal hev R hs ho hf
      · cases hs
    · rename_i hcal
      split at hs
      · rename_i t t2 x1 x2 htys hargs
        split at hs
        · rename_i e2 hu2
          have hty : c.argTypes = #[t, t2] := by rw [← Array.toList_inj]; exact htys
          obtain ⟨o1, o2, hca⟩ := arr_two c.args (by have := congrArg List.length hargs; simpa using this)
          rw [hca] at hargs
          simp only [List.map_cons, List.map_nil, List.cons.injEq, and_true] at hargs
          rw [← hargs.1, ← hargs.2] at hs
          exact g_append hcal hty hca hu2 R hs ho hf
        · cases hs
      · cases hs
    · rename_i hcal
      split at hs
      · rename_i t x htys hargs
        have hty : c.argTypes = #[t] := by rw [← Array.toList_inj]; exact htys
        obtain ⟨o1, hca⟩ := arr_one c.args (by have := congrArg List.length hargs; simpa using this)
        rw [hca] at hargs
        simp only [List.map_cons, List.map_nil, List.cons.injEq, and_true] at hargs
        subst hargs
        simp only [pure1] at hs
        split at hs
        · rename_i r ob hl
          cases hs
          obtain ⟨v, hv⟩ := q_len (c := c) (tys := c.argTypes) (args := c.args) R hl
          obtain ⟨h1, h2⟩ := hv ty
          refine goal_pure R rfl (v := v) ?_ h2
          simp [execOp, resolve, hcal, invoke, builtin, hty, hca, h1]
        · cases hs
      · cases hs
    · rename_i hcal
      split at hs
      · rename_i v hm
        cases hs
        exact g_max (big := true) R hcal hm
      · cases hs
    · rename_i hcal
      split at hs
      · rename_i v hm
        cases hs
        exact g_max (big := false) R hcal hm
      · cases hs
    · cases hs
  | _ => simp [sem] at hs

theorem semV_goal {o : Oper} (R : Rel F w0 M0 ι0 s ι a w) (hs : semV P o.op h s.ev (getH s.H) = some e) (ho : All e.obl) (hf : ∀ k, k ∈ e.new → s.free k = true) : Goal P o F w0 M0 ι0 s a w e := by
  unfold semV at hs
  split at hs
  · rename_i e' he'
    split at hs
    · rename_i v hv
      cases hs
      obtain ⟨h1, h2⟩ := ho
      have := sem_goal R he' h2 hf
      simp only [Goal] at this ⊢
      rw [← h1]
      exact this
    · cases hs
      exact sem_goal R he' ho hf
  · cases hs
end
end Go.Ab
