/-
  A LAYER OVER THE KIT's 'Code.wp' (part 6): the evaluator is right about the operations that leave the world as it is.
  Conditions: none. No project text.
-/
import Derived.Test.YtgefhpoejihneaaAb5
namespace Go.Ab
set_option linter.unusedVariables false
set_option linter.unusedSimpArgs false

section
variable {P : Program} {F : Nat → Nat → Prop} {w0 : World} {M0 : Nat → Nat → Prop} {ι0 : Nat → Loc} {s : St} {ι : Nat → Loc} {a : Act} {w : World} {e : Eff}
  {dst : Option Tmp} {ty : TypeId} {pos : String} {after : Array Edge} {guard : Option (Nat × Bool)} {h : Hint}

/-- an operation that yields a value, and leaves the world as it is -/
def Quiet (F : Nat → Nat → Prop) (P : Program) (o : Oper) (s : St) (ι : Nat → Loc) (a : Act) (w : World) (e : Eff) : Prop :=
  e.up = [] ∧ e.new = [] ∧ ∃ v, (execOp a.eval o).run P w = .ok (.value v) w ∧ RV w (Im F s.H ι) ι v e.res

theorem Quiet.goal {o : Oper} (R : Rel F w0 M0 ι0 s ι a w) (q : Quiet F P o s ι a w e) : Goal P o F w0 M0 ι0 s a w e := by
  obtain ⟨h1, _, v, h2, h3⟩ := q
  exact goal_pure R h1 h2 h3

theorem rv_d {I : Nat → Nat → Prop} {v : Value} {x : D} (h : RV w I ι v (.d x)) : RD w I v x := by
  cases h with | d h => exact h
theorem rv_agg {I : Nat → Nat → Prop} {v : Value} {cs : List A} (h : RV w I ι v (.agg cs)) : ∃ vs : Array Value, v = .agg vs ∧ vs.size = cs.length ∧ ∀ (i : Nat) (v : Value) (a : A), vs[i]? = some v → cs[i]? = some a → RV w I ι v a := by
  cases h with | agg vs cs hn hr => exact ⟨vs, rfl, hn, hr⟩

theorem q_move {x : Operand} (R : Rel F w0 M0 ι0 s ι a w) (hs : sem P (.move x) h s.ev (getH s.H) = some e) (ho : All e.obl) : Quiet F P ⟨dst, .move x, ty, pos, after, guard⟩ s ι a w e := by
  simp only [sem, Option.some.injEq] at hs
  subst hs
  exact ⟨rfl, rfl, a.eval x, rfl, ev_rv R x⟩
theorem q_assign {x : Operand} (R : Rel F w0 M0 ι0 s ι a w) (hs : sem P (.assign x) h s.ev (getH s.H) = some e) (ho : All e.obl) : Quiet F P ⟨dst, .assign x, ty, pos, after, guard⟩ s ι a w e := by
  simp only [sem, Option.some.injEq] at hs
  subst hs
  exact ⟨rfl, rfl, a.eval x, rfl, ev_rv R x⟩
theorem q_pick {c x y : Operand} (R : Rel F w0 M0 ι0 s ι a w) (hs : sem P (.pick c x y) h s.ev (getH s.H) = some e) (ho : All e.obl) : Quiet F P ⟨dst, .pick c x y, ty, pos, after, guard⟩ s ι a w e := by
  simp only [sem] at hs
  split at hs
  · rename_i t ht
    cases hs
    have hc := ev_rv R c
    rw [ht] at hc
    have e1 := rv_bool hc
    refine ⟨rfl, rfl, if t then a.eval x else a.eval y, by simp [execOp, e1, asBool], ?_⟩
    have e2 : t = h.br := ho.1
    rw [← e2]
    cases t
    · exact ev_rv R y
    · exact ev_rv R x
  · cases hs
theorem q_bin {op : BinOp} {t t' : TypeId} {x y : Operand} (R : Rel F w0 M0 ι0 s ι a w) (hs : sem P (.binOp op t x y t') h s.ev (getH s.H) = some e) (ho : All e.obl) : Quiet F P ⟨dst, .binOp op t x y t', ty, pos, after, guard⟩ s ι a w e := by
  simp only [sem, pure1] at hs
  split at hs
  · rename_i r ob hsb
    cases hs
    obtain ⟨z, h1, h2⟩ := semBin_rv hsb ho (ev_rv R x) (ev_rv R y) (x := x) (y := y)
    exact ⟨rfl, rfl, z, by simp only [execOp]; rw [Sem.run_bind, h1]; rfl, h2⟩
  · cases hs
theorem q_un {op : UnOp} {t : TypeId} {x : Operand} (R : Rel F w0 M0 ι0 s ι a w) (hs : sem P (.unOp op t x) h s.ev (getH s.H) = some e) (ho : All e.obl) : Quiet F P ⟨dst, .unOp op t x, ty, pos, after, guard⟩ s ι a w e := by
  have hx := ev_rv R x
  simp only [sem, pure1] at hs
  split at hs
  · rename_i b hb
    cases hs
    rw [hb] at hx
    have e1 := rv_bool hx
    exact ⟨rfl, rfl, .bool (!b), by simp [execOp, e1, Op.unary], rv_mk rfl⟩
  · rename_i k n hb
    cases hs
    rw [hb] at hx
    obtain ⟨e1, _⟩ := rv_v hx
    exact ⟨rfl, rfl, .int k (k.wrap (0 - n)), by simp [execOp, e1, Op.unary, Op.intArith], intRes_rv' ho⟩
  · cases hs
theorem q_convert {t t' : TypeId} {x : Operand} (R : Rel F w0 M0 ι0 s ι a w) (hs : sem P (.convert t t' x) h s.ev (getH s.H) = some e) (ho : All e.obl) : Quiet F P ⟨dst, .convert t t' x, ty, pos, after, guard⟩ s ι a w e := by
  have hx := ev_rv R x
  simp only [sem, pure1] at hs
  split at hs
  · rename_i k0 k k1 n h1 h2 hb
    cases hs
    rw [hb] at hx
    obtain ⟨e1, _⟩ := rv_v hx
    exact ⟨rfl, rfl, .int k (k.wrap n), by simp [execOp, e1, convert, run_underlying h1, run_underlying h2, Conv.intToInt], intRes_rv' ho⟩
  · cases hs
theorem q_iface {t : TypeId} {x : Operand} (R : Rel F w0 M0 ι0 s ι a w) (hs : sem P (.makeInterface t x) h s.ev (getH s.H) = some e) (ho : All e.obl) : Quiet F P ⟨dst, .makeInterface t x, ty, pos, after, guard⟩ s ι a w e := by
  simp only [sem] at hs
  split at hs
  · cases hs
  · cases hs
  · rename_i d v hd hu hv hni
    cases hs
    refine ⟨rfl, rfl, .iface t (a.eval x), ?_, .iface _ _ _ (ev_rv R x)⟩
    simp only [execOp, Instr.makeInterface, Sem.run_bind, run_underlying hv, Result.andThen_ok]
    cases d <;> first | rfl | exact absurd rfl (hni _)
  · cases hs
theorem q_func {fn : Fn} {first cap : Array Operand} (R : Rel F w0 M0 ι0 s ι a w) (hs : sem P (.makeFunc fn first cap) h s.ev (getH s.H) = some e) (ho : All e.obl) : Quiet F P ⟨dst, .makeFunc fn first cap, ty, pos, after, guard⟩ s ι a w e := by
  simp only [sem, Option.some.injEq] at hs
  subst hs
  refine ⟨rfl, rfl, .func fn (first.map a.eval) (cap.map a.eval), rfl, .fn _ _ _ _ _ (by simp) (by simp) (fun i v x hv hx => ?_) (fun i v x hv hx => ?_)⟩
  · simp only [Array.getElem?_map, Option.map_eq_some_iff] at hv
    obtain ⟨y, hy, rfl⟩ := hv
    simp only [List.getElem?_map, Array.getElem?_toList, hy, Option.map_some, Option.some.injEq] at hx
    subst hx
    exact ev_rv R y
  · simp only [Array.getElem?_map, Option.map_eq_some_iff] at hv
    obtain ⟨y, hy, rfl⟩ := hv
    simp only [List.getElem?_map, Array.getElem?_toList, hy, Option.map_some, Option.some.injEq] at hx
    subst hx
    exact ev_rv R y
theorem q_extract {x : Operand} {i : Nat} (R : Rel F w0 M0 ι0 s ι a w) (hs : sem P (.extract x i) h s.ev (getH s.H) = some e) (ho : All e.obl) : Quiet F P ⟨dst, .extract x i, ty, pos, after, guard⟩ s ι a w e := by
  have hx := ev_rv R x
  simp only [sem] at hs
  split at hs
  · rename_i cs hcs
    split at hs
    · rename_i v hv
      cases hs
      rw [hcs] at hx
      cases hxx : a.eval x with
      | tuple vs =>
        rw [hxx] at hx
        cases hx with
        | tup _ _ hn hr =>
          have hlt : i < vs.size := by rw [hn]; exact (List.getElem?_eq_some_iff.1 hv).1
          exact ⟨rfl, rfl, vs[i], by simp [execOp, Instr.extract, hxx, hlt], hr i _ _ (Array.getElem?_eq_getElem hlt) hv⟩
      | _ => rw [hxx] at hx; cases hx
    · cases hs
  · cases hs
theorem q_nilCheck {x : Operand} (R : Rel F w0 M0 ι0 s ι a w) (hs : sem P (.nilCheck x) h s.ev (getH s.H) = some e) (ho : All e.obl) : Quiet F P ⟨dst, .nilCheck x, ty, pos, after, guard⟩ s ι a w e := by
  have hx := ev_rv R x
  simp only [sem] at hs
  split at hs
  · rename_i r i j hb
    cases hs
    rw [hb] at hx
    refine ⟨rfl, rfl, a.eval x, ?_, hx⟩
    cases hxx : a.eval x <;> rw [hxx] at hx <;> cases hx
    simp [execOp, hxx]
  · rename_i c j hb
    cases hs
    rw [hb] at hx
    refine ⟨rfl, rfl, a.eval x, ?_, hx⟩
    cases hxx : a.eval x <;> rw [hxx] at hx <;> cases hx
    simp [execOp, hxx]
  · rename_i f p q hb
    cases hs
    rw [hb] at hx
    refine ⟨rfl, rfl, a.eval x, ?_, hx⟩
    cases hxx : a.eval x <;> rw [hxx] at hx <;> cases hx
    simp [execOp, hxx]
  · cases hs
theorem q_load {t : TypeId} {x : Operand} (R : Rel F w0 M0 ι0 s ι a w) (hs : sem P (.load t x) h s.ev (getH s.H) = some e) (ho : All e.obl) : Quiet F P ⟨dst, .load t x, ty, pos, after, guard⟩ s ι a w e := by
  have hx := ev_rv R x
  simp only [sem] at hs
  split at hs
  · rename_i cs j ob n hv h1 h2
    cases hb : Nat.ble (j + n) cs.length with
    | false => rw [hb] at hs; cases hs
    | true =>
      rw [hb] at hs
      simp only [cond_true, Option.some.injEq] at hs
      subst hs
      obtain ⟨b, o, hp, hc⟩ := view_cells R hv ho hx
      have hle : j + n ≤ cs.length := Nat.le_of_ble_eq_true hb
      obtain ⟨u, e1, e2⟩ := load_agg (P := P) h1 h2 ((hc.drop j).take n) (by simp; omega)
      exact ⟨rfl, rfl, u, by simp only [execOp, Instr.loadAt, hp, Instr.sureAddr]; simp [e1], e2⟩
  · rename_i cs j ob n hv h1 h2
    split at hs
    · rename_i v hld
      cases hs
      obtain ⟨b, o, hp, hc⟩ := view_cells R hv ho.2 hx
      obtain ⟨u, e1, e2⟩ := hc j v ho.1
      exact ⟨rfl, rfl, u, by simp only [execOp, Instr.loadAt, hp, Instr.sureAddr]; simp [load_one h1 e1], e2⟩
    · split at hs
      · rename_i v hcj
        cases hs
        obtain ⟨b, o, hp, hc⟩ := view_cells R hv ho hx
        obtain ⟨u, e1, e2⟩ := hc j v hcj
        exact ⟨rfl, rfl, u, by simp only [execOp, Instr.loadAt, hp, Instr.sureAddr]; simp [load_one h1 e1], e2⟩
      · cases hs
  · cases hs
theorem q_fieldAddr {t : TypeId} {x : Operand} {f : Nat} (R : Rel F w0 M0 ι0 s ι a w) (hs : sem P (.fieldAddr t x f) h s.ev (getH s.H) = some e) (ho : All e.obl) : Quiet F P ⟨dst, .fieldAddr t x f, ty, pos, after, guard⟩ s ι a w e := by
  have hx := ev_rv R x
  have hplus : ∀ j k, plus j k = j + k := fun j k => by cases j <;> cases k <;> simp [plus]
  simp only [sem] at hs
  split at hs
  · rename_i fs hfs
    split at hs
    · rename_i fl hfl
      split at hs
      · rename_i n r i j hn hb
        cases hs
        rw [hb] at hx
        cases hxx : a.eval x <;> rw [hxx] at hx <;> cases hx
        refine ⟨rfl, rfl, .pointer (some ⟨(ι r).b, (ι r).off + i * (ι r).sz + j + fl.offset, none⟩), ?_, ?_⟩
        · simp [execOp, Instr.fieldAt, run_underlying hfs, hfl, hxx, Instr.sureAddr, fieldPlace, run_sizeOf' hn, add_addr]
        · rw [hplus, Nat.add_assoc]; exact .ptr r i (j + fl.offset)
      · rename_i n c j hn hb
        cases hs
        rw [hb] at hx
        cases hxx : a.eval x <;> rw [hxx] at hx <;> cases hx
        rename_i b off g hm hr
        refine ⟨rfl, rfl, .pointer (some ⟨b, off + j + fl.offset, none⟩), ?_, ?_⟩
        · simp [execOp, Instr.fieldAt, run_underlying hfs, hfl, hxx, Instr.sureAddr, fieldPlace, run_sizeOf' hn, add_addr]
        · rw [hplus, Nat.add_assoc]; exact .pp c (j + fl.offset) b off g hm hr
      · cases hs
    · cases hs
  · cases hs
theorem q_field {t : TypeId} {x : Operand} {f : Nat} (R : Rel F w0 M0 ι0 s ι a w) (hs : sem P (.field t x f) h s.ev (getH s.H) = some e) (ho : All e.obl) : Quiet F P ⟨dst, .field t x f, ty, pos, after, guard⟩ s ι a w e := by
  have hx := ev_rv R x
  simp only [sem] at hs
  split at hs
  · rename_i fs cs hfs hb
    rw [hb] at hx
    cases hxx : a.eval x <;> rw [hxx] at hx <;> cases hx
    rename_i vs hn hr
    split at hs
    · rename_i fl hfl
      split at hs
      · rename_i n h1 h2
        cases hle : Nat.ble (fl.offset + n) cs.length with
        | false => rw [hle] at hs; cases hs
        | true =>
          rw [hle] at hs
          simp only [cond_true, Option.some.injEq] at hs
          subst hs
          have hle' := Nat.le_of_ble_eq_true hle
          refine ⟨rfl, rfl, .agg (vs.extract fl.offset (fl.offset + n)), ?_, .agg _ _ (by simp [hn]; omega) fun i v y hv hy => ?_⟩
          · simp [execOp, Instr.field, run_underlying hfs, hfl, hxx, asAgg, part, run_isAgg h1, run_sizeOf' h2]
          · rw [List.getElem?_take] at hy
            split at hy
            · rename_i hi
              rw [List.getElem?_drop] at hy
              rw [Array.getElem?_extract] at hv
              split at hv
              · exact hr _ _ _ hv hy
              · cases hv
            · cases hy
      · rename_i n h1 h2
        split at hs
        · rename_i v hv
          cases hs
          have hlt : fl.offset < vs.size := by rw [hn]; exact (List.getElem?_eq_some_iff.1 hv).1
          refine ⟨rfl, rfl, vs[fl.offset], ?_, hr _ _ _ (Array.getElem?_eq_getElem hlt) hv⟩
          simp [execOp, Instr.field, run_underlying hfs, hfl, hxx, asAgg, part, run_isAgg h1, hlt]
        · cases hs
      · cases hs
    · cases hs
  · cases hs

theorem sub_len (lo : Nat) (ln : Option Nat) (es : List (List D)) (h : lo + ln.getD (es.length - lo) ≤ es.length) : (sub lo ln es).length = ln.getD (es.length - lo) := by
  unfold sub
  split <;> simp <;> simp at h <;> omega
theorem sub_get (lo : Nat) (ln : Option Nat) (es : List (List D)) (i : Nat) (hi : i < ln.getD (es.length - lo)) : (sub lo ln es)[i]? = es[lo + i]? := by
  unfold sub
  split
  · simp
  · simp
  · rename_i n _
    simp at hi
    simp [List.getElem?_take, hi]
theorem lenOf_eq (lo : Nat) (ln : Option Nat) (n : Nat) : lenOf lo ln n = ln.getD (n - lo) := by
  unfold lenOf
  split <;> simp
theorem plus_eq (j k : Nat) : plus j k = j + k := by cases j <;> cases k <;> simp [plus]
theorem times_eq (k n : Nat) : times k n = k * n := by unfold times; split <;> simp

/-- what a mutable slice is -/
theorem rv_msl {I : Nat → Nat → Prop} {v : Value} {r lo : Nat} {ln cap : Option Nat} (h : RV w I ι v (.msl r lo ln cap)) :
    (∃ c, v = .slice (some ⟨(ι r).b, (ι r).off + lo * (ι r).sz, none⟩) (ln.getD ((ι r).n - lo)) c ∧ ln.getD ((ι r).n - lo) ≤ c ∧ (∀ k, cap = some k → c = k) ∧ lo + ln.getD ((ι r).n - lo) ≤ (ι r).n ∧ (ι r).off + (lo + c) * (ι r).sz ≤ (ι r).tot) ∨
    (∃ a, v = .slice a 0 0 ∧ ln.getD ((ι r).n - lo) = 0 ∧ ∀ k, cap = some k → 0 = k) := by
  cases h with
  | msl r lo len ln cap c hl hc hk hn ht => subst hl; exact .inl ⟨c, rfl, hc, hk, hn, ht⟩
  | mslz r lo a ln cap hl hk => exact .inr ⟨a, rfl, hl, hk⟩

theorem rd_sl {I : Nat → Nat → Prop} {v : Value} {es : List (List D)} (h : RD w I v (.sl es)) :
    (∃ b off sz cap, ∃ f : Nat → Nat → Value, v = .slice (some ⟨b, off, none⟩) es.length cap ∧ es.length ≤ cap ∧ (∀ (i : Nat) (c : List D), es[i]? = some c → c.length = sz) ∧
      (∀ (i j : Nat) (c : List D) (d : D), es[i]? = some c → c[j]? = some d → w.cell? ⟨b, off + i * sz + j, none⟩ = some (f i j) ∧ I b (off + i * sz + j)) ∧
      ∀ (i j : Nat) (c : List D) (d : D), es[i]? = some c → c[j]? = some d → RD w I (f i j) d) ∨ (∃ a cap, v = .slice a 0 cap ∧ es = []) := by
  cases h with
  | emp a cap => exact .inr ⟨a, cap, rfl, rfl⟩
  | sl b off sz cap es f hc hs hm hr => exact .inl ⟨b, off, sz, cap, f, rfl, hc, hs, hm, hr⟩

theorem q_indexAddr {t : TypeId} {x ix : Operand} (R : Rel F w0 M0 ι0 s ι a w) (hs : sem P (.indexAddr t x ix) h s.ev (getH s.H) = some e) (ho : All e.obl) : Quiet F P ⟨dst, .indexAddr t x ix, ty, pos, after, guard⟩ s ι a w e := by
  have hx := ev_rv R x
  have hi := ev_rv R ix
  simp only [sem] at hs
  split at hs
  · rename_i el es k n hu hb hbi
    split at hs
    · rename_i sz hsz
      cases hs
      rw [hb] at hx
      rw [hbi] at hi
      obtain ⟨e1, _⟩ := rv_v hi
      obtain ⟨hn, hes, hl, _⟩ := ho
      · rcases rd_sl (rv_d hx) with ⟨b, off, sz', cap, f, hv, hc, hss, hm, hr⟩ | ⟨a', cap, hv, he⟩
        · have hsz' : sz' = sz := by rw [← hl]; exact (hss _ _ hes).symm
          subst hsz'
          have hlt : h.k < es.length := (List.getElem?_eq_some_iff.1 hes).1
          refine ⟨rfl, rfl, .pointer (some ⟨b, off + h.k * sz', none⟩), ?_, ?_⟩
          · have h1 : (0 : Int) ≤ n ∧ n < es.length := by omega
            simp [execOp, Instr.indexAt, e1, hv, asIntOf, run_underlying hu, h1, run_sizeOf' hsz, add_addr, hn, hlt]
          · exact .pp h.cs 0 b (off + h.k * sz') (f h.k) (fun i d hd => hm _ _ _ _ hes hd) (fun i d hd => hr _ _ _ _ hes hd)
        · subst he; simp at hes
    · cases hs
  · rename_i el r lo ln cap k n hu hb hbi
    split at hs
    · rename_i sz es fz sz' hob hsz
      cases hbq : Nat.beq sz sz' with
      | false => rw [hbq] at hs; cases hs
      | true =>
        rw [hbq] at hs
        simp only [cond_true, Option.some.injEq] at hs
        subst hs
        obtain rfl := beq_true hbq
        rw [hb] at hx
        rw [hbi] at hi
        obtain ⟨e1, _⟩ := rv_v hi
        obtain ⟨hn, hlt, _⟩ := ho
        obtain ⟨_, c, ty', h1, h2, h3, h4, h5, h6, h7, h8⟩ := R.obj r _ hob
        rw [lenOf_eq, ← h4] at hlt
        rcases rv_msl hx with ⟨cp, hv, hc1, hk1, hn1, ht1⟩ | ⟨a', hv, hl0, _⟩
        · refine ⟨rfl, rfl, .pointer (some ⟨(ι r).b, (ι r).off + (lo + h.k) * (ι r).sz, none⟩), ?_, ?_⟩
          · have h9 : (0 : Int) ≤ n ∧ n < (ln.getD ((ι r).n - lo) : Nat) := by omega
            simp [execOp, Instr.indexAt, e1, hv, asIntOf, run_underlying hu, h9, run_sizeOf' hsz, add_addr, hn, hlt, h2]
            rw [Nat.add_mul, Nat.add_assoc]
          · rw [plus_eq]; exact .ptr r (lo + h.k) 0
        · omega
    · cases hs
  · rename_i len el r i j k n hu hb hbi
    split at hs
    · rename_i sz hsz
      cases hs
      rw [hb] at hx
      rw [hbi] at hi
      obtain ⟨e1, _⟩ := rv_v hi
      obtain ⟨hn, hlt, _⟩ := ho
      cases hxx : a.eval x <;> rw [hxx] at hx <;> cases hx
      refine ⟨rfl, rfl, .pointer (some ⟨(ι r).b, (ι r).off + i * (ι r).sz + (j + h.k * sz), none⟩), ?_, ?_⟩
      · have h9 : (0 : Int) ≤ n ∧ n < (len : Int) := by omega
        simp [execOp, Instr.indexAt, e1, hxx, Instr.sureAddr, asIntOf, run_underlying hu, h9, run_sizeOf' hsz, add_addr, hn, hlt, Nat.add_assoc]
      · rw [plus_eq, times_eq]; exact .ptr r i (j + h.k * sz)
    · cases hs
  · rename_i len el c j k n hu hb hbi
    split at hs
    · rename_i sz hsz
      cases hs
      rw [hb] at hx
      rw [hbi] at hi
      obtain ⟨e1, _⟩ := rv_v hi
      obtain ⟨hn, hlt, _⟩ := ho
      cases hxx : a.eval x <;> rw [hxx] at hx <;> cases hx
      rename_i b off g hm hr
      refine ⟨rfl, rfl, .pointer (some ⟨b, off + (j + h.k * sz), none⟩), ?_, ?_⟩
      · have h9 : (0 : Int) ≤ n ∧ n < (len : Int) := by omega
        simp [execOp, Instr.indexAt, e1, hxx, Instr.sureAddr, asIntOf, run_underlying hu, h9, run_sizeOf' hsz, add_addr, hn, hlt, Nat.add_assoc]
      · rw [plus_eq, times_eq]; exact .pp c (j + h.k * sz) b off g hm hr
    · cases hs
  · cases hs
theorem q_index {t : TypeId} {x ix : Operand} (R : Rel F w0 M0 ι0 s ι a w) (hs : sem P (.index t x ix) h s.ev (getH s.H) = some e) (ho : All e.obl) : Quiet F P ⟨dst, .index t x ix, ty, pos, after, guard⟩ s ι a w e := by
  have hx := ev_rv R x
  have hi := ev_rv R ix
  simp only [sem] at hs
  split at hs
  · rename_i str k n hu hb hbi
    cases hs
    rw [hb] at hx
    rw [hbi] at hi
    obtain ⟨e1, _⟩ := rv_v hi
    obtain ⟨e2, _⟩ := rv_v hx
    obtain ⟨hn, hss, _⟩ := ho
    have h0 : (0 : Int) ≤ n := by omega
    have h1 : n.toNat = h.k := by omega
    exact ⟨rfl, rfl, .int .u8 h.u.toNat, by simp [execOp, Instr.index, e1, e2, asIntOf, run_underlying hu, h0, h1, hss], rv_mk rfl⟩
  · rename_i len el cs k n hu hb hbi
    split at hs
    · rename_i h1 h2
      split at hs
      · rename_i v hv
        cases hs
        rw [hb] at hx
        rw [hbi] at hi
        obtain ⟨e1, _⟩ := rv_v hi
        obtain ⟨hn, hlt, _⟩ := ho
        obtain ⟨vs, hxx, hsz, hr⟩ := rv_agg hx
        have hlt' : h.k < vs.size := by rw [hsz]; exact (List.getElem?_eq_some_iff.1 hv).1
        have h9 : (0 : Int) ≤ n ∧ n < (len : Int) := by omega
        have h3 : n.toNat = h.k := by omega
        exact ⟨rfl, rfl, vs[h.k], by simp [execOp, Instr.index, e1, hxx, asIntOf, run_underlying hu, h9, h3, part, run_isAgg h1, run_sizeOf' h2, hlt', hlt], hr _ _ _ (Array.getElem?_eq_getElem hlt') hv⟩
      · cases hs
    · cases hs
  · cases hs
end
end Go.Ab
