/-
  A LAYER OVER THE KIT's 'Code.wp' (part 5): the evaluator is right about operations that touch no memory, and about loads.
  Conditions: none. No project text.
-/
import Derived.Test.YtgefhpoejihneaaAb4
import Derived.Laws.Cells
import Derived.Laws.Slices
import Derived.Laws.Build
namespace Go.Ab
set_option linter.unusedVariables false
set_option linter.unusedSimpArgs false

theorem ofVal_rv (w : World) (I : Nat → Nat → Prop) (ι : Nat → Loc) (v : Value) : RV w I ι v (ofVal v) := by
  have flatcase : ∀ v : Value, RV w I ι v (bif flat v then .d (.v v) else .dead) := fun v => by
    cases h : flat v with
    | true => exact .d (.v v h)
    | false => exact .dead v
  cases v with
  | agg cs =>
    refine .agg cs _ (by simp) fun i v a hv ha => ?_
    simp only [List.getElem?_map, Array.getElem?_toList, hv, Option.map_some, Option.some.injEq] at ha
    subst ha
    exact flatcase v
  | _ => exact flatcase _

theorem ev_rv {F : Nat → Nat → Prop} {w0 : World} {M0 : Nat → Nat → Prop} {ι0 : Nat → Loc} {s : St} {ι : Nat → Loc} {a : Act} {w : World} (R : Rel F w0 M0 ι0 s ι a w) (x : Operand) : RV w (Im F s.H ι) ι (a.eval x) (s.ev x) := by
  cases x with
  | tmp t => exact R.tmp t
  | const v => exact ofVal_rv _ _ _ v
  | global g => exact .dead _
  | func f => exact .fn _ #[] #[] [] [] rfl rfl (fun i v a hv _ => by simp at hv) (fun i v a hv _ => by simp at hv)

/-- what is to be shown of an operation and its effect -/
def Goal (P : Program) (o : Oper) (F : Nat → Nat → Prop) (w0 : World) (M0 : Nat → Nat → Prop) (ι0 : Nat → Loc) (s : St) (a : Act) (w : World) (e : Eff) : Prop :=
  ∀ (next : Act → World → Prop) (Q : Exit → Act → World → Prop),
    (∀ v w' ι', Rel F w0 M0 ι0 { s with H := e.up ++ s.H } ι' a w' → RV w' (Im F (e.up ++ s.H) ι') ι' v e.res → next (a.put o.dst v) w') → o.wp P a w next Q

section
variable {P : Program} {o : Oper} {F : Nat → Nat → Prop} {w0 : World} {M0 : Nat → Nat → Prop} {ι0 : Nat → Loc} {s : St} {ι : Nat → Loc} {a : Act} {w : World} {e : Eff}

theorem goal_pure (R : Rel F w0 M0 ι0 s ι a w) (hu : e.up = []) {v : Value} (hrun : (execOp a.eval o).run P w = .ok (.value v) w) (hv : RV w (Im F s.H ι) ι v e.res) : Goal P o F w0 M0 ι0 s a w e := by
  intro next Q hK
  unfold Oper.wp
  rw [hrun]
  have hs : ({ s with H := e.up ++ s.H } : St) = s := by rw [hu]; rfl
  have := hK v w ι
  rw [hs, hu] at this
  exact this R hv

theorem goal_value {v : Value} {w' : World} {ι' : Nat → Loc} (hrun : (execOp a.eval o).run P w = .ok (.value v) w') (R : Rel F w0 M0 ι0 { s with H := e.up ++ s.H } ι' a w') (hv : RV w' (Im F (e.up ++ s.H) ι') ι' v e.res) :
    Goal P o F w0 M0 ι0 s a w e := by
  intro next Q hK
  unfold Oper.wp
  rw [hrun]
  exact hK v w' ι' R hv

theorem goal_skip {w' : World} {ι' : Nat → Loc} (hrun : (execOp a.eval o).run P w = .ok .skip w') (R : Rel F w0 M0 ι0 { s with H := e.up ++ s.H } ι' a w') (hd : e.res = .dead) :
    Goal P o F w0 M0 ι0 s a w e := by
  intro next Q hK
  unfold Oper.wp
  rw [hrun]
  exact hK undef w' ι' R (by rw [hd]; exact .dead _)

theorem rv_bool {I : Nat → Nat → Prop} {v : Value} {b : Bool} (h : RV w I ι v (.d (.v (.bool b)))) : v = .bool b := by
  cases h with | d h => cases h with | v _ _ => rfl
theorem rv_v {I : Nat → Nat → Prop} {v x : Value} (h : RV w I ι v (.d (.v x))) : v = x ∧ flat x = true := by
  cases h with | d h => cases h with | v _ h => exact ⟨rfl, h⟩
theorem rv_mk {I : Nat → Nat → Prop} {x : Value} (h : flat x = true) : RV w I ι x (.d (.v x)) := .d (.v x h)

theorem wrap_id {k : IntKind} {n : Int} (h : lo k ≤ n ∧ n ≤ hi k) : k.wrap n = n := by
  cases k <;> simp [lo, hi] at h <;> simp [IntKind.wrap, IntKind.bits, IntKind.signed] <;> omega

theorem intRes_rv {I : Nat → Nat → Prop} {k : IntKind} {n : Int} {nw : Bool} {r : A} {ob : List Prop} (h : intRes k n nw = (r, ob)) (ho : All ob) : RV w I ι (.int k (k.wrap n)) r := by
  cases nw with
  | true =>
    simp only [intRes, cond_true, Prod.mk.injEq] at h
    obtain ⟨rfl, rfl⟩ := h
    rw [wrap_id ho.1]
    exact rv_mk rfl
  | false =>
    simp only [intRes, cond_false, Prod.mk.injEq] at h
    obtain ⟨rfl, rfl⟩ := h
    exact rv_mk rfl

theorem intRes_rv' {I : Nat → Nat → Prop} {k : IntKind} {n : Int} {nw : Bool} (ho : All (intRes k n nw).2) : RV w I ι (.int k (k.wrap n)) (intRes k n nw).1 := intRes_rv (r := (intRes k n nw).1) (ob := (intRes k n nw).2) rfl ho

theorem run_guard {op : BinOp} {t : TypeId} {x y : Operand} {u v : Value} (h : ∀ cs, u ≠ .agg cs) (h' : u ≠ .nilIface) : (eqGuard op t x y u v).run P w = .ok () w := by
  unfold eqGuard
  cases op <;> simp <;> cases u <;> simp_all

theorem run_equalIn_bool {t : TypeId} (h : P.underlying t = some .bool) (d : Nat) (x y : Bool) : (Op.equalIn (d + 1) t (.bool x) (.bool y)).run P w = .ok (x == y) w := by
  simp [Op.equalIn, run_underlying h]
theorem run_eql_bool {t : TypeId} (h : P.underlying t = some .bool) (x y : Bool) : (binOp .eql t (.bool x) (.bool y)).run P w = .ok (.bool (x == y)) w := by
  simp only [binOp]
  simp [Op.equal, Op.maxDepth, run_equalIn_bool (w := w) h 9999 x y]
theorem run_neq_bool {t : TypeId} (h : P.underlying t = some .bool) (x y : Bool) : (binOp .neq t (.bool x) (.bool y)).run P w = .ok (.bool (!(x == y))) w := by
  simp only [binOp]
  simp [Op.equal, Op.maxDepth, run_equalIn_bool (w := w) h 9999 x y]

theorem run_isAgg {t : TypeId} {b : Bool} (h : aggT P t = some b) : (isAgg t).run P w = .ok b w := by
  unfold aggT at h
  cases hu : P.underlying t with
  | none => rw [hu] at h; cases h
  | some d =>
    rw [hu] at h
    simp only [isAgg, Sem.run_bind, run_underlying hu, Result.andThen_ok]
    cases d <;> simp at h <;> subst h <;> rfl
theorem run_part {I : Nat → Nat → Prop} {xs : Array Value} {cs : List A} {t : TypeId} {o : Nat} {x : A} (hx : ∀ (i : Nat) (v : Value) (a : A), xs[i]? = some v → cs[i]? = some a → RV w I ι v a) (hn : xs.size = cs.length) (ht : aggT P t = some false) (hc : cs[o]? = some x) :
    ∃ v, (part t xs o).run P w = .ok v w ∧ RV w I ι v x := by
  have hlt : o < xs.size := by rw [hn]; exact (List.getElem?_eq_some_iff.1 hc).1
  have e1 : xs[o]? = some xs[o] := Array.getElem?_eq_getElem hlt
  have hagg : (isAgg t).run P w = .ok false w := run_isAgg ht
  refine ⟨xs[o], ?_, hx o _ x e1 hc⟩
  simp only [part, Sem.run_bind, hagg, Result.andThen_ok, Bool.false_eq_true, if_false, e1]
  rfl
theorem run_eqCell {I : Nat → Nat → Prop} {t : TypeId} {u v : Value} {x y : A} {b : Bool} (d : Nat) (h : eqCell P t x y = some b) (hu : RV w I ι u x) (hv : RV w I ι v y) : (Op.equalIn (d + 1) t u v).run P w = .ok b w := by
  unfold eqCell at h
  split at h
  · split at h
    · rename_i ka a kb c _ _ hut
      have : ka = kb ∧ (a == c) = b := by
        by_cases hk : ka = kb
        · simpa [hk] using h
        · simp [hk] at h
      obtain ⟨rfl, rfl⟩ := this
      obtain ⟨rfl, _⟩ := rv_v hu
      obtain ⟨rfl, _⟩ := rv_v hv
      exact run_equalIn_int w d t ka _ a c hut
    · cases h
  · split at h
    · rename_i hut
      simp only [Option.some.injEq] at h
      subst h
      obtain ⟨rfl, _⟩ := rv_v hu
      obtain ⟨rfl, _⟩ := rv_v hv
      exact run_equalIn_bool hut d _ _
    · cases h
  · split at h
    · rename_i hut
      simp only [Option.some.injEq] at h
      subst h
      obtain ⟨rfl, _⟩ := rv_v hu
      obtain ⟨rfl, _⟩ := rv_v hv
      exact run_equalIn_string w d t _ _ hut
    · cases h
  · cases h
theorem run_eq_some {t e : TypeId} (h : P.underlying t = some (.slice e)) (d : Nat) (a : Addr) (l c : Nat) : (Op.equalIn (d + 1) t (.slice (some a) l c) (.slice none 0 0)).run P w = .ok false w := by
  simp [Op.equalIn, run_underlying h]
theorem run_eq_none {t e : TypeId} (h : P.underlying t = some (.slice e)) (d : Nat) : (Op.equalIn (d + 1) t (.slice none 0 0) (.slice none 0 0)).run P w = .ok true w := by
  simp [Op.equalIn, run_underlying h]
theorem run_eqFieldsA {I : Nat → Nat → Prop} {xs ys : Array Value} {cs ds : List A} (d : Nat) (hx : ∀ (i : Nat) (v : Value) (a : A), xs[i]? = some v → cs[i]? = some a → RV w I ι v a) (hn : xs.size = cs.length)
    (hy : ∀ (i : Nat) (v : Value) (a : A), ys[i]? = some v → ds[i]? = some a → RV w I ι v a) (hm : ys.size = ds.length) : ∀ (fs : List Field) (b : Bool), eqFieldsA P cs ds fs = some b → (Op.eqFields (d + 1) xs ys fs).run P w = .ok b w
  | [], b, h => by simp only [eqFieldsA, Option.some.injEq] at h; subst h; simp [Op.eqFields]
  | f :: fs, b, h => by
    simp only [eqFieldsA] at h
    split at h
    · rename_i x y ha hc hd
      cases hnm : decide (f.name = "_") with
      | true => rw [hnm] at h; cases h
      | false =>
        rw [hnm] at h
        simp only [cond_false] at h
        split at h
        · rename_i b1 r1 h1 h2
          simp only [Option.some.injEq] at h
          subst h
          obtain ⟨u, p1, q1⟩ := run_part hx hn ha hc
          obtain ⟨v, p2, q2⟩ := run_part hy hm ha hd
          have ih := run_eqFieldsA d hx hn hy hm fs r1 h2
          have hne : f.name ≠ "_" := of_decide_eq_false hnm
          simp only [Op.eqFields, ne_eq, hne, not_false_eq_true, if_true, Sem.run_bind, p1, p2, run_eqCell d h1 q1 q2, Result.andThen_ok]
          cases b1 with
          | true => simpa using ih
          | false => simp
        · cases h
    · cases h

theorem semBin_rv {op : BinOp} {t : TypeId} {nw : Bool} {x y : Operand} {u v : Value} {p q r : A} {ob : List Prop} {I : Nat → Nat → Prop}
    (hs : semBin P op t nw p q = some (r, ob)) (ho : All ob) (hu : RV w I ι u p) (hv : RV w I ι v q) :
    ∃ z, ((do eqGuard op t x y u v; binOp op t u v : Sem Value)).run P w = .ok z w ∧ RV w I ι z r := by
  unfold semBin at hs
  split at hs
  · rename_i k n k' m
    obtain ⟨rfl, _⟩ := rv_v hu
    obtain ⟨rfl, _⟩ := rv_v hv
    have hg : (eqGuard op t x y (.int k n) (.int k' m)).run P w = .ok () w := run_guard (by simp) (by simp)
    simp only [Sem.run_bind, hg, Result.andThen_ok]
    split at hs
    · simp only [semShift, Option.some.injEq, Prod.mk.injEq] at hs
      obtain ⟨rfl, rfl⟩ := hs
      have h0 : ¬ m < 0 := by have := ho.1; omega
      exact ⟨_, by simp [binOp, Op.shift, h0], rv_mk rfl⟩
    · simp only [semShift, Option.some.injEq, Prod.mk.injEq] at hs
      obtain ⟨rfl, rfl⟩ := hs
      have h0 : ¬ m < 0 := by have := ho.1; omega
      exact ⟨_, by simp [binOp, Op.shift, h0], rv_mk rfl⟩
    · rename_i hne1 hne2
      cases hk : decide (k = k') with
      | false => rw [hk] at hs; simp at hs
      | true =>
        rw [hk] at hs
        simp only [cond_true] at hs
        have hkk : k = k' := of_decide_eq_true hk
        subst hkk
        cases op <;> simp only [semInt, Option.some.injEq, Prod.mk.injEq, reduceCtorEq] at hs
        case add => exact ⟨_, by simp [binOp, Op.intArith], intRes_rv hs ho⟩
        case sub => exact ⟨_, by simp [binOp, Op.intArith], intRes_rv hs ho⟩
        case mul => exact ⟨_, by simp [binOp, Op.intArith], intRes_rv hs ho⟩
        case quo =>
          cases nw with
          | true =>
            simp only [cond_true, Prod.mk.injEq] at hs
            obtain ⟨rfl, rfl⟩ := hs
            obtain ⟨h1, h2, h3, _⟩ := ho
            have h0 : m ≠ 0 := by omega
            have e : k.wrap (n.tdiv m) = n / m := by
              rw [Int.tdiv_eq_ediv_of_nonneg h1]
              refine wrap_id ⟨?_, ?_⟩
              · have : 0 ≤ n / m := Int.ediv_nonneg h1 (by omega)
                have : lo k ≤ 0 := by cases k <;> simp [lo]
                omega
              · have := Int.ediv_le_self m h1
                omega
            exact ⟨.int k (n / m), by simp [binOp, Op.intDiv, h0, e], rv_mk rfl⟩
          | false =>
            simp only [cond_false, Prod.mk.injEq] at hs
            obtain ⟨rfl, rfl⟩ := hs
            have h0 : m ≠ 0 := ho.1
            exact ⟨_, by simp [binOp, Op.intDiv, h0], rv_mk rfl⟩
        case rem =>
          cases nw with
          | true =>
            simp only [cond_true, Prod.mk.injEq] at hs
            obtain ⟨rfl, rfl⟩ := hs
            obtain ⟨h1, h2, _⟩ := ho
            have h0 : m ≠ 0 := by omega
            exact ⟨.int k (n % m), by simp [binOp, Op.intDiv, h0, Int.tmod_eq_emod_of_nonneg h1], rv_mk rfl⟩
          | false =>
            simp only [cond_false, Prod.mk.injEq] at hs
            obtain ⟨rfl, rfl⟩ := hs
            have h0 : m ≠ 0 := ho.1
            exact ⟨_, by simp [binOp, Op.intDiv, h0], rv_mk rfl⟩
        case and => obtain ⟨rfl, rfl⟩ := hs; exact ⟨_, by simp [binOp, Op.intBits], rv_mk rfl⟩
        case or => obtain ⟨rfl, rfl⟩ := hs; exact ⟨_, by simp [binOp, Op.intBits], rv_mk rfl⟩
        case xor => obtain ⟨rfl, rfl⟩ := hs; exact ⟨_, by simp [binOp, Op.intBits], rv_mk rfl⟩
        case andNot => obtain ⟨rfl, rfl⟩ := hs; exact ⟨_, by simp [binOp, Op.intBits], rv_mk rfl⟩
        case eql => obtain ⟨rfl, rfl⟩ := hs; exact ⟨_, by simp [binOp, Op.intCmp], rv_mk rfl⟩
        case neq => obtain ⟨rfl, rfl⟩ := hs; exact ⟨_, by simp [binOp, Op.intCmp], rv_mk rfl⟩
        case lss => obtain ⟨rfl, rfl⟩ := hs; exact ⟨_, by simp [binOp, Op.intCmp], rv_mk rfl⟩
        case leq => obtain ⟨rfl, rfl⟩ := hs; exact ⟨_, by simp [binOp, Op.intCmp], rv_mk rfl⟩
        case gtr => obtain ⟨rfl, rfl⟩ := hs; exact ⟨_, by simp [binOp, Op.intCmp], rv_mk rfl⟩
        case geq => obtain ⟨rfl, rfl⟩ := hs; exact ⟨_, by simp [binOp, Op.intCmp], rv_mk rfl⟩
  · rename_i x1 y1
    obtain ⟨rfl, _⟩ := rv_v hu
    obtain ⟨rfl, _⟩ := rv_v hv
    have hg : (eqGuard op t x y (.bool x1) (.bool y1)).run P w = .ok () w := run_guard (by simp) (by simp)
    simp only [Sem.run_bind, hg, Result.andThen_ok]
    split at hs
    · rename_i hut
      simp only [Option.some.injEq, Prod.mk.injEq] at hs
      obtain ⟨rfl, rfl⟩ := hs
      refine ⟨_, ?_, rv_mk (x := .bool (x1 == y1)) rfl⟩
      exact run_eql_bool hut _ _
    · rename_i hut
      simp only [Option.some.injEq, Prod.mk.injEq] at hs
      obtain ⟨rfl, rfl⟩ := hs
      refine ⟨_, ?_, rv_mk (x := .bool (!(x1 == y1))) rfl⟩
      exact run_neq_bool hut _ _
    · cases hs
  · rename_i x1 y1
    obtain ⟨rfl, _⟩ := rv_v hu
    obtain ⟨rfl, _⟩ := rv_v hv
    have hg : (eqGuard op t x y (.string x1) (.string y1)).run P w = .ok () w := run_guard (by simp) (by simp)
    simp only [Sem.run_bind, hg, Result.andThen_ok]
    cases op <;> simp only [semStr, Option.some.injEq, Prod.mk.injEq, reduceCtorEq] at hs
    case add =>
      obtain ⟨rfl, rfl⟩ := hs
      have h0 : ¬ ((x1.size : Int) + (y1.size : Int) > 9223372036854775807) := by have := ho.1; omega
      have h1 : ¬ ((x1.size : Int) + (y1.size : Int) > IntKind.i64.max) := by simpa [IntKind.max, IntKind.signed, IntKind.bits] using h0
      have h2 : ((x1.size : Int) + (y1.size : Int)) ≤ 9223372036854775807 := by omega
      exact ⟨_, by simp [binOp, Op.stringOp, h1, h2], rv_mk rfl⟩
    case eql => obtain ⟨rfl, rfl⟩ := hs; exact ⟨_, by simp [binOp, Op.stringOp], rv_mk rfl⟩
    case neq => obtain ⟨rfl, rfl⟩ := hs; exact ⟨_, by simp [binOp, Op.stringOp], rv_mk rfl⟩
  · rename_i es
    obtain ⟨rfl, _⟩ := rv_v hv
    have key : 0 < es.length → ∃ a l c, u = .slice (some a) l c := fun h0 => by
      cases hu with
      | d h =>
        cases h with
        | emp a cap => simp at h0
        | sl b off sz cap es f _ _ _ _ => exact ⟨_, _, _, rfl⟩
    split at hs
    · rename_i hut
      simp only [Option.some.injEq, Prod.mk.injEq] at hs
      obtain ⟨rfl, rfl⟩ := hs
      obtain ⟨a, l, c, rfl⟩ := key ho.1
      have hg : (eqGuard .eql t x y (.slice (some a) l c) (.slice none 0 0)).run P w = .ok () w := run_guard (by simp) (by simp)
      refine ⟨.bool false, ?_, rv_mk rfl⟩
      simp only [Sem.run_bind, hg, Result.andThen_ok, binOp]
      simp [Op.equal, Op.maxDepth, run_eq_some (w := w) hut 9999 a l c]
    · rename_i hut
      simp only [Option.some.injEq, Prod.mk.injEq] at hs
      obtain ⟨rfl, rfl⟩ := hs
      obtain ⟨a, l, c, rfl⟩ := key ho.1
      have hg : (eqGuard .neq t x y (.slice (some a) l c) (.slice none 0 0)).run P w = .ok () w := run_guard (by simp) (by simp)
      refine ⟨.bool true, ?_, rv_mk rfl⟩
      simp only [Sem.run_bind, hg, Result.andThen_ok, binOp]
      simp [Op.equal, Op.maxDepth, run_eq_some (w := w) hut 9999 a l c]
    · cases hs
  · obtain ⟨rfl, _⟩ := rv_v hu
    obtain ⟨rfl, _⟩ := rv_v hv
    split at hs
    · rename_i hut
      simp only [Option.some.injEq, Prod.mk.injEq] at hs
      obtain ⟨rfl, rfl⟩ := hs
      have hg : (eqGuard .eql t x y (.slice none 0 0) (.slice none 0 0)).run P w = .ok () w := run_guard (by simp) (by simp)
      refine ⟨.bool true, ?_, rv_mk rfl⟩
      simp only [Sem.run_bind, hg, Result.andThen_ok, binOp]
      simp [Op.equal, Op.maxDepth, run_eq_none (w := w) hut 9999]
    · rename_i hut
      simp only [Option.some.injEq, Prod.mk.injEq] at hs
      obtain ⟨rfl, rfl⟩ := hs
      have hg : (eqGuard .neq t x y (.slice none 0 0) (.slice none 0 0)).run P w = .ok () w := run_guard (by simp) (by simp)
      refine ⟨.bool false, ?_, rv_mk rfl⟩
      simp only [Sem.run_bind, hg, Result.andThen_ok, binOp]
      simp [Op.equal, Op.maxDepth, run_eq_none (w := w) hut 9999]
    · cases hs
  · rename_i cs ds
    cases hu with
    | agg xs _ hn hx =>
    cases hv with
    | agg ys _ hm hy =>
    have key : ∀ b, eqAgg P t cs ds = some b → (Op.equalIn 10000 t (.agg xs) (.agg ys)).run P w = .ok b w ∧ (eqGuard op t x y (.agg xs) (.agg ys)).run P w = .ok () w := fun b hb => by
      unfold eqAgg at hb
      split at hb
      · rename_i fs hfs
        cases hg : (P.stoodInHeld t || P.eqGuardType P.depth t) with
        | true => rw [hg] at hb; cases hb
        | false =>
          rw [hg] at hb
          simp only [cond_false] at hb
          simp only [Bool.or_eq_false_iff] at hg
          have hfo : P.fieldsOf t = fs := by simp [Program.fieldsOf, hfs]
          refine ⟨?_, run_eqGuard_agg w op t x y xs ys hg.2⟩
          have e1 := run_equalIn_struct w 9999 t xs ys (by rw [hfo]; exact hfs) hg.1
          rw [hfo] at e1
          exact e1.trans (run_eqFieldsA 9998 hx hn hy hm fs.toList b hb)
      · cases hb
    split at hs
    · rename_i b hb
      simp only [Option.some.injEq, Prod.mk.injEq] at hs
      obtain ⟨rfl, rfl⟩ := hs
      obtain ⟨k1, k2⟩ := key b hb
      refine ⟨.bool b, ?_, rv_mk rfl⟩
      simp only [Sem.run_bind, k2, Result.andThen_ok]
      rw [run_eql_struct, k1]
      rfl
    · rename_i b hb
      simp only [Option.some.injEq, Prod.mk.injEq] at hs
      obtain ⟨rfl, rfl⟩ := hs
      obtain ⟨k1, k2⟩ := key b hb
      refine ⟨.bool (!b), ?_, rv_mk rfl⟩
      simp only [Sem.run_bind, k2, Result.andThen_ok]
      rw [run_neq_struct, k1]
      rfl
    · cases hs
  · cases hs

theorem run_sizeOf' {t : TypeId} {n : Nat} (h : szT P t = some n) : (sizeOf t).run P w = .ok n w := by
  unfold szT at h
  cases hi : P.info? t with
  | none => rw [hi] at h; cases h
  | some i =>
    rw [hi] at h
    simp at h
    simp [sizeOf, typeInfo, hi, h]

theorem beq_true {a b : Nat} (h : Nat.beq a b = true) : a = b := Nat.eq_of_beq_eq_true h

theorem add_addr (b o i : Nat) : (⟨b, o, none⟩ : Addr).add i = ⟨b, o + i, none⟩ := by unfold Addr.add; split <;> simp_all

/-- the cells from a place on -/
def Cells (w : World) (I : Nat → Nat → Prop) (ι : Nat → Loc) (b o : Nat) (cs : List A) : Prop := ∀ (i : Nat) (x : A), cs[i]? = some x → ∃ u, w.cell? ⟨b, o + i, none⟩ = some u ∧ RV w I ι u x

theorem view_cells (R : Rel F w0 M0 ι0 s ι a w) {h : Hint} {p : A} {cs : List A} {j : Nat} {ob : List Prop} {v : Value} (hv : view (getH s.H) h p = some (cs, j, ob)) (ho : All ob) (hr : RV w (Im F s.H ι) ι v p) :
    ∃ b o, v = .pointer (some ⟨b, o + j, none⟩) ∧ Cells w (Im F s.H ι) ι b o cs := by
  unfold view at hv
  split at hv
  · rename_i r i j'
    split at hv
    · rename_i cs' hob
      cases hi : Nat.beq i 0 with
      | false => rw [hi] at hv; cases hv
      | true =>
        rw [hi] at hv
        simp only [cond_true, Option.some.injEq, Prod.mk.injEq] at hv
        obtain ⟨rfl, rfl, rfl⟩ := hv
        obtain rfl := beq_true hi
        cases hr
        obtain ⟨_, c, ty, h1, h2, h3, h4⟩ := R.obj r _ hob
        refine ⟨(ι r).b, 0, by simp [h2], fun i x hx => ?_⟩
        have hlt : i < c.size := by rw [h3]; exact (List.getElem?_eq_some_iff.1 hx).1
        refine ⟨c[i], ?_, h4 i _ _ (Array.getElem?_eq_getElem hlt) hx⟩
        simp [World.cell?, h1, hlt]
    · rename_i sz es fz hob
      simp only [Option.some.injEq, Prod.mk.injEq] at hv
      obtain ⟨rfl, rfl, rfl⟩ := hv
      have hes : es[i]? = some h.cs := ho.1
      cases hr
      obtain ⟨_, c, ty, h1, h2, h3, h4, h5, h6, h7, h8⟩ := R.obj r _ hob
      refine ⟨(ι r).b, (ι r).off + i * (ι r).sz, rfl, fun k x hx => ?_⟩
      simp only [List.getElem?_map, Option.map_eq_some_iff] at hx
      obtain ⟨d, hd, rfl⟩ := hx
      have hk : k < sz := by rw [← h7 i _ hes]; exact (List.getElem?_eq_some_iff.1 hd).1
      have hi : i < es.length := (List.getElem?_eq_some_iff.1 hes).1
      have hlt : (ι r).off + i * (ι r).sz + k < c.size := by
        have h9 : i * sz + k < es.length * sz := by
          have : (i + 1) * sz ≤ es.length * sz := Nat.mul_le_mul_right _ hi
          rw [Nat.add_mul] at this
          omega
        rw [h2]
        omega
      refine ⟨c[(ι r).off + i * (ι r).sz + k], ?_, .d (h8 i k _ d _ hes hd (by rw [← h2]; exact Array.getElem?_eq_getElem hlt))⟩
      simp [World.cell?, h1, hlt]
    · cases hv
  · rename_i c j'
    simp only [Option.some.injEq, Prod.mk.injEq] at hv
    obtain ⟨rfl, rfl, rfl⟩ := hv
    cases hr with
    | pp cs j b off f hm hr =>
      refine ⟨b, off, rfl, fun i x hx => ?_⟩
      simp only [List.getElem?_map, Option.map_eq_some_iff] at hx
      obtain ⟨d, hd, rfl⟩ := hx
      exact ⟨f i, (hm i d hd).1, .d (hr i d hd)⟩
  · cases hv

theorem Cells.drop {I : Nat → Nat → Prop} {b o : Nat} {cs : List A} (h : Cells w I ι b o cs) (j : Nat) : Cells w I ι b (o + j) (cs.drop j) := fun i x hx => by
  rw [List.getElem?_drop] at hx
  obtain ⟨u, h1, h2⟩ := h (j + i) x hx
  exact ⟨u, by rw [show o + j + i = o + (j + i) by omega]; exact h1, h2⟩
theorem Cells.take {I : Nat → Nat → Prop} {b o : Nat} {cs : List A} (h : Cells w I ι b o cs) (n : Nat) : Cells w I ι b o (cs.take n) := fun i x hx => by
  rw [List.getElem?_take] at hx
  split at hx
  · exact h i x hx
  · cases hx

theorem load_agg {I : Nat → Nat → Prop} {t : TypeId} {n b o : Nat} {cs : List A} (h1 : aggT P t = some true) (h2 : szT P t = some n) (h : Cells w I ι b o cs) (hn : cs.length = n) :
    ∃ u, (loadVar t ⟨b, o, none⟩).run P w = .ok u w ∧ RV w I ι u (.agg cs) := by
  have hc : ∀ j, j < n → ∃ u, w.cell? ⟨b, o + j, none⟩ = some u ∧ RV w I ι u (cs.getD j .dead) := fun j hj => by
    have hj' : j < cs.length := by omega
    exact h j _ (by simp [List.getD, List.getElem?_eq_getElem hj'])
  have hf := run_loadCells (P := P) w ⟨b, o, none⟩ n (fun j => (w.cell? ⟨b, o + j, none⟩).getD undef) (fun j hj => by
    obtain ⟨u, e, _⟩ := hc j hj
    rw [add_addr, e]
    rfl)
  refine ⟨_, by simp only [loadVar, Sem.run_bind, run_isAgg h1, Result.andThen_ok, if_true, run_sizeOf' h2, hf]; rfl, .agg _ _ (by simp [hn]) fun i v x hv hx => ?_⟩
  have hi : i < n := by rw [← hn]; exact (List.getElem?_eq_some_iff.1 hx).1
  obtain ⟨u, e1, e2⟩ := hc i hi
  simp [hi, e1] at hv
  subst hv
  simpa [List.getD, hx] using e2

theorem load_one {t : TypeId} {b o : Nat} {u : Value} (h1 : aggT P t = some false) (h : w.cell? ⟨b, o, none⟩ = some u) : (loadVar t ⟨b, o, none⟩).run P w = .ok u w := by
  simp [loadVar, run_isAgg h1, h]
end
end Go.Ab
