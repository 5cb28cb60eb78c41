/-
  A LAYER OVER THE KIT's 'Code.wp' (part 7): the evaluator is right about building values, lengths, slices, new objects, stores.
  Conditions: none. No project text.
-/
import Derived.Test.YtgefhpoejihneaaAb6
import Derived.Laws.Tables
import Derived.Laws.CopyRow
import Derived.Great.FillDense
namespace Go.Ab
set_option linter.unusedVariables false
set_option linter.unusedSimpArgs false

section
variable {P : Program} {F : Nat → Nat → Prop} {w0 : World} {M0 : Nat → Nat → Prop} {ι0 : Nat → Loc} {s : St} {ι : Nat → Loc} {a : Act} {w : World} {e : Eff}
  {dst : Option Tmp} {ty : TypeId} {pos : String} {after : Array Edge} {guard : Option (Nat × Bool)} {h : Hint}

/-- cells, one by one -/
def RVs (w : World) (I : Nat → Nat → Prop) (ι : Nat → Loc) (vs : Array Value) (cs : List A) : Prop :=
  vs.size = cs.length ∧ ∀ (i : Nat) (v : Value) (x : A), vs[i]? = some v → cs[i]? = some x → RV w I ι v x

theorem RV.cells {I : Nat → Nat → Prop} {v : Value} {x : A} {cs : List A} (hv : RV w I ι v x) (hc : x.cells? = some cs) : RVs w I ι v.cells cs := by
  have one : ∀ v : Value, RV w I ι v x → v.cells = #[v] → cs = [x] → RVs w I ι v.cells cs := fun v hv h1 h2 => by
    subst h2
    rw [h1]
    refine ⟨rfl, fun i u y hu hy => ?_⟩
    cases i with
    | zero => simp at hu hy; subst hu; subst hy; exact hv
    | succ i => simp at hu
  cases hv with
  | d h =>
    cases h with
    | v _ hf =>
      simp only [A.cells?, Option.some.injEq] at hc
      exact one _ (.d (.v _ hf)) (by cases v <;> simp_all [Value.cells, flat]) hc.symm
    | emp b cap => simp only [A.cells?, Option.some.injEq] at hc; exact one _ (.d (.emp b cap)) rfl hc.symm
    | sl b off sz cap es f h1 h2 h3 h4 => simp only [A.cells?, Option.some.injEq] at hc; exact one _ (.d (.sl b off sz cap es f h1 h2 h3 h4)) rfl hc.symm
    | agg vs ds hn hr =>
      simp only [A.cells?, Option.some.injEq] at hc
      subst hc
      refine ⟨by simp [Value.cells, hn], fun i u y hu hy => ?_⟩
      simp only [List.getElem?_map, Option.map_eq_some_iff] at hy
      obtain ⟨d, hd, rfl⟩ := hy
      exact .d (hr i u d hu hd)
    | iface t v y h => simp only [A.cells?, Option.some.injEq] at hc; exact one _ (.d (.iface t v y h)) rfl hc.symm
  | agg vs cs' hn hr => simp only [A.cells?, Option.some.injEq] at hc; subst hc; exact ⟨hn, hr⟩
  | tup vs cs' hn hr => simp [A.cells?] at hc
  | ptr r i j => simp only [A.cells?, Option.some.injEq] at hc; exact one _ (.ptr r i j) rfl hc.symm
  | pp c j b off f hm hr => simp only [A.cells?, Option.some.injEq] at hc; exact one _ (.pp c j b off f hm hr) rfl hc.symm
  | msl r lo len ln cap c h1 h2 h3 h4 h5 => simp only [A.cells?, Option.some.injEq] at hc; exact one _ (.msl r lo len ln cap c h1 h2 h3 h4 h5) rfl hc.symm
  | mslz r lo b ln cap h1 h2 => simp only [A.cells?, Option.some.injEq] at hc; exact one _ (.mslz r lo b ln cap h1 h2) rfl hc.symm
  | map r => simp only [A.cells?, Option.some.injEq] at hc; exact one _ (.map r) rfl hc.symm
  | iter r => simp only [A.cells?, Option.some.injEq] at hc; exact one _ (.iter r) rfl hc.symm
  | fn f xs ys p q h1 h2 h3 h4 => simp only [A.cells?, Option.some.injEq] at hc; exact one _ (.fn f xs ys p q h1 h2 h3 h4) rfl hc.symm
  | iface t v y h => simp only [A.cells?, Option.some.injEq] at hc; exact one _ (.iface t v y h) rfl hc.symm
  | dead v => simp [A.cells?] at hc

theorem RV.one {I : Nat → Nat → Prop} {v : Value} {x : A} (hv : RV w I ι v x) (hc : x.one = true) : v.oneCell' = true := by
  cases hv with
  | d h =>
    cases h with
    | v _ hf => cases v <;> simp_all [Value.oneCell', flat]
    | emp b cap => rfl
    | sl b off sz cap es f h1 h2 h3 h4 => rfl
    | agg vs ds hn hr => simp [A.one] at hc
    | iface t v y h => rfl
  | agg vs cs' hn hr => simp [A.one] at hc
  | tup vs cs' hn hr => simp [A.one] at hc
  | dead v => simp [A.one] at hc
  | _ => rfl

theorem splice_get {α : Type} (l : List α) (j : Nat) (vs : List α) (hle : j + vs.length ≤ l.length) (k : Nat) :
    (splice l j vs)[k]? = if j ≤ k ∧ k < j + vs.length then vs[k - j]? else l[k]? := by
  unfold splice
  split
  · rename_i v
    simp only [List.length_singleton] at hle ⊢
    by_cases hk : k = j
    · subst hk; rw [if_pos (by omega), List.getElem?_set_self (by omega)]; simp
    · rw [if_neg (by omega), List.getElem?_set_ne (by omega)]
  · rename_i hne
    by_cases h1 : k < j
    · rw [if_neg (by omega), List.append_assoc, List.getElem?_append_left (by simp; omega), List.getElem?_take, if_pos h1]
    · by_cases h2 : k < j + vs.length
      · rw [if_pos (by omega), List.append_assoc, List.getElem?_append_right (by simp; omega), List.getElem?_append_left (by simp; omega)]
        simp [Nat.min_eq_left (by omega : j ≤ l.length)]
      · rw [if_neg (by omega), List.getElem?_append_right (by simp; omega), List.getElem?_drop]
        congr 1
        simp
        omega
theorem splice_len {α : Type} (l : List α) (j : Nat) (vs : List α) (hle : j + vs.length ≤ l.length) : (splice l j vs).length = l.length := by
  unfold splice
  split
  · simp
  · simp; omega

theorem foldl_array {α β : Type} (f : β → α → β) (b : β) (l : Array α) : l.foldl f b = l.toList.foldl f b := by rw [Array.foldl_toList]

theorem fill_step {I : Nat → Nat → Prop} {cells : Array Value} {cs : List A} {v : Value} {vs : List A} {off : Nat} (hc : RVs w I ι cells cs) (hv : RVs w I ι v.cells vs) (hle : off + vs.length ≤ cs.length) :
    RVs w I ι (v.cells.zipIdx.foldl (fun cs (x : Value × Nat) => cs.setIfInBounds (off + x.2) x.1) cells) (splice cs off vs) := by
  obtain ⟨g1, g2⟩ := Great.foldl_set off v.cells.toList 0 cells
  have e : v.cells.zipIdx.foldl (fun cs (x : Value × Nat) => cs.setIfInBounds (off + x.2) x.1) cells = (v.cells.toList.zipIdx 0).foldl (fun cs (x : Value × Nat) => cs.setIfInBounds (off + x.2) x.1) cells := by
    rw [foldl_array, Array.toList_zipIdx]
  rw [e]
  refine ⟨by rw [g1, splice_len _ _ _ hle]; exact hc.1, fun i u x hu hx => ?_⟩
  rw [g2] at hu
  rw [splice_get _ _ _ hle] at hx
  have hl : v.cells.toList.length = vs.length := by simp [hv.1]
  simp only [Nat.add_zero, hl] at hu
  by_cases hi : off ≤ i ∧ i < off + vs.length
  · rw [if_pos ⟨hi.1, hi.2, by rw [hc.1]; omega⟩] at hu
    rw [if_pos hi] at hx
    exact hv.2 _ _ _ (by simpa using hu) hx
  · rw [if_neg (by omega)] at hu
    rw [if_neg hi] at hx
    exact hc.2 _ _ _ hu hx

theorem fillA_rv {I : Nat → Nat → Prop} {ρ : Operand → Value} {ρA : Operand → A} (hρ : ∀ x, RV w I ι (ρ x) (ρA x)) {place : Nat → Option (Nat × Nat)} :
    ∀ (parts : List (Nat × Operand)) (cells : Array Value) (cs out : List A), RVs w I ι cells cs → fillA place cs (parts.map fun x => (x.1, ρA x.2)) = some out →
    ∃ r, Instr.fill place cells (parts.map fun x => (x.1, ρ x.2)) = some r ∧ RVs w I ι r out
  | [], cells, cs, out, hc, hf => by
    simp only [List.map_nil, fillA, Option.some.injEq] at hf
    subst hf
    exact ⟨cells, rfl, hc⟩
  | (i, x) :: rest, cells, cs, out, hc, hf => by
    simp only [List.map_cons, fillA] at hf
    split at hf
    · rename_i off size vs hp hvs
      have hvr := (hρ x).cells hvs
      cases hb : Nat.beq vs.length size && Nat.ble (off + vs.length) cs.length with
      | false => rw [hb] at hf; cases hf
      | true =>
        rw [hb] at hf
        simp only [cond_true] at hf
        simp only [Bool.and_eq_true] at hb
        have h1 := beq_true hb.1
        have h2 := Nat.le_of_ble_eq_true hb.2
        obtain ⟨r, hr, hrr⟩ := fillA_rv hρ rest _ _ out (fill_step (v := ρ x) hc hvr h2) hf
        refine ⟨r, ?_, hrr⟩
        simp only [List.map_cons, Instr.fill, hp]
        rw [if_neg (by simp [hvr.1, hc.1, h1]; omega)]
        exact hr
    · cases hf

theorem zeroA_rv {t : TypeId} {cs : List A} (hz : zeroA P t = some cs) (w : World) (I : Nat → Nat → Prop) (ι : Nat → Loc) :
    ∃ i z, P.info? t = some i ∧ i.zero = some z ∧ RVs w I ι z.cells cs := by
  unfold zeroA at hz
  cases hi : P.info? t with
  | none => rw [hi] at hz; cases hz
  | some i =>
    rw [hi] at hz
    simp only [Option.bind_some] at hz
    split at hz
    · rename_i z hzz
      exact ⟨i, z, rfl, hzz, (ofVal_rv w I ι z).cells hz⟩
    · cases hz

theorem places_eq : ∀ (fs : List Field) (l : List (Nat × Nat)), places P fs = some l → fs.mapM (fun f => (P.info? f.type).map fun i => (f.offset, i.size)) = some l
  | [], l, h => by simp [places] at h; subst h; rfl
  | f :: fs, l, h => by
    simp only [places, szT] at h
    split at h
    · rename_i n l' h1 h2
      cases h
      have ih := places_eq fs l' h2
      cases hi : P.info? f.type with
      | none => rw [hi] at h1; cases h1
      | some i =>
        rw [hi] at h1
        simp at h1
        subst h1
        simp [List.mapM_cons, hi, ih]
    · cases h

theorem q_build {t : TypeId} {parts : Array (Nat × Operand)} (R : Rel F w0 M0 ι0 s ι a w) (hs : sem P (.build t parts) h s.ev (getH s.H) = some e) (ho : All e.obl) : Quiet F P ⟨dst, .build t parts, ty, pos, after, guard⟩ s ι a w e := by
  simp only [sem] at hs
  have key : ∀ (cells : Array Value), P.built t (parts.map fun (x : Nat × Operand) => (x.1, a.eval x.2)).toList = some cells → (execOp a.eval ⟨dst, .build t parts, ty, pos, after, guard⟩).run P w = .ok (.value (.agg cells)) w := by
    intro cells hc
    simp only [execOp, Sem.run_bind]
    rw [run_build w t _ cells hc]
    rfl
  split at hs
  · rename_i fs z hu hz
    split at hs
    · rename_i ps hps
      split at hs
      · rename_i cs hf
        cases hs
        obtain ⟨i, zv, hi, hzv, hzr⟩ := zeroA_rv hz w (Im F s.H ι) ι
        obtain ⟨r, hr, hrr⟩ := fillA_rv (fun x => ev_rv R x) parts.toList zv.cells z cs hzr hf
        refine ⟨rfl, rfl, .agg r, key r ?_, .agg _ _ hrr.1 hrr.2⟩
        simp only [Program.built, hi, hu, hzv, places_eq _ _ hps, Array.toList_map]
        simpa using hr
      · cases hs
    · cases hs
  · rename_i len el z hu hz
    split at hs
    · rename_i n hn
      split at hs
      · rename_i cs hf
        cases hs
        obtain ⟨i, zv, hi, hzv, hzr⟩ := zeroA_rv hz w (Im F s.H ι) ι
        obtain ⟨r, hr, hrr⟩ := fillA_rv (fun x => ev_rv R x) parts.toList zv.cells z cs hzr hf
        refine ⟨rfl, rfl, .agg r, key r ?_, .agg _ _ hrr.1 hrr.2⟩
        unfold szT at hn
        cases hie : P.info? el with
        | none => rw [hie] at hn; cases hn
        | some ie =>
          rw [hie] at hn
          simp at hn
          subst hn
          simp only [Program.built, hi, hu, hzv, hie, Array.toList_map]
          exact hr
      · cases hs
    · cases hs
  · cases hs

theorem q_len {t : TypeId} {c : Call} {tys : Array TypeId} {args : Array Operand} {x : Operand} {y : A × List Prop} (R : Rel F w0 M0 ι0 s ι a w) (hs : semLen P t (getH s.H) (s.ev x) = some y) :
    ∃ v, ∀ tt, (Builtin.len_ #[t] tt #[a.eval x]).run P w = .ok v w ∧ RV w (Im F s.H ι) ι v y.1 := by
  have hx := ev_rv R x
  unfold semLen at hs
  split at hs
  · rename_i el es hu hb
    cases hs
    rw [hb] at hx
    rcases rd_sl (rv_d hx) with ⟨b, off, sz', cap, f, hv, hc, hss, hm, hr⟩ | ⟨a', cap, hv, he⟩
    · exact ⟨.int .i64 es.length, fun tt => ⟨by simp [Builtin.len_, run_underlying hu, hv, goInt], rv_mk rfl⟩⟩
    · exact ⟨.int .i64 es.length, fun tt => ⟨by simp [Builtin.len_, run_underlying hu, hv, goInt, he], rv_mk rfl⟩⟩
  · rename_i el hu hb
    cases hs
    rw [hb] at hx
    obtain ⟨e1, _⟩ := rv_v hx
    exact ⟨.int .i64 0, fun tt => ⟨by simp [Builtin.len_, run_underlying hu, e1, goInt], rv_mk rfl⟩⟩
  · rename_i el r lo ln cap hu hb
    split at hs
    · rename_i sz es fz hob
      cases hs
      rw [hb] at hx
      obtain ⟨_, c, ty', h1, h2, h3, h4, h5, h6, h7, h8⟩ := R.obj r _ hob
      rcases rv_msl hx with ⟨cp, hv, hc1, hk1, hn1, ht1⟩ | ⟨a', hv, hl0, _⟩
      · exact ⟨.int .i64 (lenOf lo ln es.length : Nat), fun tt => ⟨by simp [Builtin.len_, run_underlying hu, hv, goInt, lenOf_eq, h4], rv_mk rfl⟩⟩
      · exact ⟨.int .i64 (lenOf lo ln es.length : Nat), fun tt => ⟨by simp [Builtin.len_, run_underlying hu, hv, goInt, lenOf_eq, ← h4, hl0], rv_mk rfl⟩⟩
    · cases hs
  · rename_i str hu hb
    cases hs
    rw [hb] at hx
    obtain ⟨e1, _⟩ := rv_v hx
    exact ⟨.int .i64 str.size, fun tt => ⟨by simp [Builtin.len_, run_underlying hu, e1, goInt], rv_mk rfl⟩⟩
  · rename_i kt vt r hu hb
    split at hs
    · rename_i es hob
      cases hs
      rw [hb] at hx
      obtain ⟨_, m, k, h1, h2, h3⟩ := R.obj r _ hob
      cases hxx : a.eval x <;> rw [hxx] at hx <;> cases hx
      exact ⟨.int .i64 es.length, fun tt => ⟨by simp [Builtin.len_, run_underlying hu, hxx, goInt, getObj, Sem.run, h1, h2], rv_mk rfl⟩⟩
    · cases hs
  · cases hs
end
end Go.Ab
