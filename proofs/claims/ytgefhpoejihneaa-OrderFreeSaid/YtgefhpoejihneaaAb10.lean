/-
  A LAYER OVER THE KIT's 'Code.wp' (part 10): written-out slices, made slices, stores.
  Conditions: none. No project text.
-/
import Derived.Test.YtgefhpoejihneaaAb9
namespace Go.Ab
set_option linter.unusedVariables false
set_option linter.unusedSimpArgs false

/-- a number that no object has, and that nothing leads to -/
def Free (s : St) (k : Nat) : Prop := s.p ≤ k ∧ getH s.H k = none ∧ (∀ t, A.has k (getT s.T t) = false) ∧ ∀ r o, getH s.H r = some o → o.has k = false

theorem Free.froze {s : St} {k : Nat} (h : Free s k) {H' : Heap} (hF : Froze s.H H') : Free { s with H := H' } k := by
  obtain ⟨h1, h2, h3, h4⟩ := h
  refine ⟨h1, ?_, h3, fun r o ho => ?_⟩
  · rcases hF k with h5 | ⟨sz, es, fz, h5, _⟩
    · exact h5.trans h2
    · rw [h2] at h5; cases h5
  · have ho' : getH H' r = some o := ho
    rcases hF r with h5 | ⟨sz, es, fz, _, h6⟩
    · exact h4 r o (by rw [← h5]; exact ho')
    · rw [h6] at ho'
      cases ho'
      rfl

theorem mem_rowsL {r : Nat} : ∀ {l : List A}, r ∈ A.rowsL l ↔ ∃ x, x ∈ l ∧ r ∈ A.rows x
  | [] => by simp [A.rowsL]
  | y :: l => by simp [A.rowsL, mem_rowsL (l := l)]

section
variable {P : Program} {F : Nat → Nat → Prop} {w0 : World} {M0 : Nat → Nat → Prop} {ι0 : Nat → Loc} {s : St} {ι : Nat → Loc} {a : Act} {w : World} {e : Eff}
  {dst : Option Tmp} {ty : TypeId} {pos : String} {after : Array Edge} {guard : Option (Nat × Bool)} {h : Hint}

/-- A new row. -/
theorem Rel.row (R : Rel F w0 M0 ι0 s ι a w) {k : Nat} (hk : Free s k) (c : Array Value) (t : TypeId) {sz : Nat} {es : List (List D)} (hl : es.length * sz ≤ c.size)
    (hs : ∀ (i : Nat) (c' : List D), es[i]? = some c' → c'.length = sz)
    (hr : ∀ (i j : Nat) (c' : List D) (d : D) (v : Value), es[i]? = some c' → c'[j]? = some d → c[i * sz + j]? = some v → RD w (Im F s.H ι) v d) (fz : Nat) (hfz : fz ≤ es.length) :
    ∃ ι', Rel F w0 M0 ι0 { s with H := (k, some (.row sz es fz)) :: s.H } ι' a (w.alloc (.cells c t)) ∧ ι' k = ⟨w.heap.size, 0, sz, c.size, es.length⟩ := by
  obtain ⟨h1, h2, h3, h4⟩ := hk
  refine ⟨upd ι k ⟨w.heap.size, 0, sz, c.size, es.length⟩, R.alloc _ k _ _ h2 h1 rfl h3 h4 fun I hc => ?_, by rw [upd_same]⟩
  simp only [RO]
  rw [upd_same]
  refine ⟨c, t, heap_alloc_new _ _, rfl, rfl, rfl, by simpa using hl, hfz, hs, fun i j c' d v hi hd hv => (hr i j c' d v hi hd (by simpa using hv)).carry hc⟩

theorem flat_get (z : List A) (m : Nat) (hz : z.length = m) : ∀ (len i : Nat), i < len * m → ((List.replicate len z).flatten)[i]? = z[i % m]?
  | 0, i, hi => by simp at hi
  | len + 1, i, hi => by
    rw [List.replicate_succ, List.flatten_cons]
    by_cases hlt : i < m
    · rw [List.getElem?_append_left (by omega), Nat.mod_eq_of_lt hlt]
    · have hi' : i < len * m + m := by rwa [Nat.add_mul, Nat.one_mul] at hi
      rw [List.getElem?_append_right (by omega), hz, flat_get z m hz len (i - m) (by omega)]
      exact congrArg (z[·]?) (Nat.mod_eq_sub_mod (by omega)).symm
theorem flat_len (z : List A) (m : Nat) (hz : z.length = m) (len : Nat) : ((List.replicate len z).flatten).length = len * m := by
  simp [List.length_flatten, hz]

theorem zeros_rv {I : Nat → Nat → Prop} {zc : Array Value} {z : List A} (hz : RVs w I ι zc z) {m : Nat} (hm : z.length = m) (len : Nat) :
    RVs w I ι ((Array.range (len * m)).map (zc[· % zc.size]!)) ((List.replicate len z).flatten) := by
  refine ⟨by rw [flat_len z m hm]; simp, fun i v x hv hx => ?_⟩
  have hi : i < len * m := by
    have := (List.getElem?_eq_some_iff.1 hx).1
    rwa [flat_len z m hm] at this
  rw [flat_get z m hm len i hi] at hx
  have hsz : zc.size = m := by rw [hz.1, hm]
  have hlt : i % m < zc.size := by rw [hz.1]; exact (List.getElem?_eq_some_iff.1 hx).1
  simp only [Array.getElem?_map, Array.getElem?_range, hi, if_true, Option.map_some, Option.some.injEq] at hv
  refine hz.2 (i % m) v x ?_ hx
  rw [← hv, hsz, Array.getElem?_eq_getElem hlt]
  simp [hlt]

theorem rowsOf_go (sz : Nat) : ∀ (n : Nat) (l : List A) (i : Nat) (c : List A), (rowsOf.go sz n l)[i]? = some c → c = (l.drop (i * sz)).take sz
  | 0, l, i, c, h => by simp [rowsOf.go] at h
  | n + 1, [], i, c, h => by simp [rowsOf.go] at h
  | n + 1, x :: l, i, c, h => by
    simp only [rowsOf.go] at h
    cases i with
    | zero => simp at h ⊢; exact h.symm
    | succ i =>
      simp only [List.getElem?_cons_succ] at h
      have := rowsOf_go sz n _ i c h
      rw [this, List.drop_drop]
      congr 2
      rw [Nat.add_mul]; omega
theorem rowsOf_get {sz : Nat} {cs : List A} {rs : List (List A)} (h : rowsOf sz cs = some rs) {i : Nat} {c : List A} (hi : rs[i]? = some c) : c = (cs.drop (i * sz)).take sz := by
  unfold rowsOf at h
  split at h
  · cases h
  · simp only [Option.some.injEq] at h; subst h; simp at hi
  · simp only [Option.some.injEq] at h; subst h; exact rowsOf_go _ _ _ _ _ hi

theorem toDss_get (obs : Nat → Option Ob) : ∀ (rs : List (List A)) (es : List (List D)), toDss obs rs = some es → rs.length = es.length ∧ ∀ (i : Nat) (c : List A) (d : List D), rs[i]? = some c → es[i]? = some d → A.toDs obs c = some d
  | [], es, h => by simp only [toDss, Option.some.injEq] at h; subst h; exact ⟨rfl, fun i c d hc => by simp at hc⟩
  | x :: rs, es, h => by
    simp only [toDss] at h
    split at h
    · rename_i y ys hy hys
      cases h
      obtain ⟨g1, g2⟩ := toDss_get obs rs ys hys
      refine ⟨by simp [g1], fun i c d hc hd => ?_⟩
      cases i with
      | zero => simp at hc hd; subst hc; subst hd; exact hy
      | succ i => simp at hc hd; exact g2 i c d hc hd
    · cases h

theorem es_over {es es' : List (List D)} {o : Option (List (List D))} (ho : All (match o with | some e => [es = e] | none => [])) (he : o.getD es = es') : es = es' := by
  cases o with
  | none => exact he
  | some x => simp only [Option.getD_some] at he; exact ho.1.trans he

theorem g_buildSlice {t : TypeId} {len : Nat} {parts : Array (Nat × Operand)} (R : Rel F w0 M0 ι0 s ι a w) (hs : sem P (.buildSlice t len parts) h s.ev (getH s.H) = some e) (ho : All e.obl) (hf : ∀ k, k ∈ e.new → s.free k = true) :
    Goal P ⟨dst, .buildSlice t len parts, ty, pos, after, guard⟩ F w0 M0 ι0 s a w e := by
  simp only [sem] at hs
  cases hl0 : Nat.beq len 0 with
  | true =>
    rw [hl0] at hs
    simp only [cond_true] at hs
    obtain rfl := beq_true hl0
    split at hs
    · rename_i el hu
      split at hs
      · rename_i n hn hp
        simp only [Option.some.injEq] at hs
        subst hs
        have hk := free_spec (hf h.k (by simp))
        obtain ⟨ι', R2, hι⟩ := R.row hk #[] el (sz := n) (es := []) (by simp) (fun i c' hc' => by simp at hc') (fun i j c' d v hc' => by simp at hc') 0 (Nat.zero_le _)
        refine goal_value (v := .slice (some ⟨w.heap.size, 0, none⟩) 0 0) (w' := w.alloc (.cells #[] el)) ?_ R2 ?_
        · simp only [execOp, Instr.buildSlice, Sem.run_bind, run_underlying hu, Result.andThen_ok, run_sizeOf' hn]
          simp [hp, Instr.fill, newRow]
          congr 1
          congr 1
          apply Array.ext <;> simp
        · have := RV.msl (w := w.alloc (.cells #[] el)) (I := Im F ((h.k, some (Ob.row n [] 0)) :: s.H) ι') (ι := ι') h.k 0 0 none (some 0) 0 (by rw [hι]; simp) (Nat.le_refl _) (fun k hk => by simpa using hk) (by rw [hι]; simp) (by rw [hι]; simp)
          rw [hι] at this
          simpa using this
      · cases hs
    · cases hs
  | false =>
  rw [hl0] at hs
  simp only [cond_false] at hs
  split at hs
  · rename_i el hu
    split at hs
    · rename_i z n hz hn
      split at hs
      · rename_i cs hcs
        split at hs
        · rename_i rs hrs
          split at hs
          · rename_i es fr hes hfr
            cases hb : cs.all A.one && Nat.beq z.length (n + 1) && Nat.beq rs.length len && rs.all (fun r => Nat.beq r.length (n + 1)) && Nat.ble (len * (n + 1)) 1024 && Nat.blt 0 len with
            | false => rw [hb] at hs; cases hs
            | true =>
              rw [hb] at hs
              simp only [cond_true, Option.some.injEq] at hs
              subst hs
              simp only [Bool.and_eq_true] at hb
              obtain ⟨⟨⟨⟨⟨hb1, hb2⟩, hb3⟩, hb4⟩, hb5⟩, hb6⟩ := hb
              have hk := free_spec (hf h.k (by simp))
              have hbz := beq_true hb2
              have hbl := beq_true hb3
              have h24 := Nat.le_of_ble_eq_true hb5
              have hee := es_over (o := h.es) ho rfl
              rw [← hee]
              obtain ⟨i, zv, hi, hzv, hzr⟩ := zeroA_rv hz w (Im F s.H ι) ι
              have hinit := zeros_rv hzr hbz len
              obtain ⟨r, hr, hrr⟩ := fillA_rv (fun x => ev_rv R x) parts.toList _ _ cs hinit hcs
              obtain ⟨R1, hF, hA, _⟩ := frz_rel R _ _ hfr
              obtain ⟨d1, d2⟩ := toDss_get _ _ _ hes
              have hc1 : Carry w (Im F s.H ι) w (Im F (fr ++ s.H) ι) := Froze.carry R hF
              have hrow : ∀ (i : Nat) (c' : List D), es[i]? = some c' → ∃ c, rs[i]? = some c ∧ A.toDs (getH s.H) c = some c' ∧ c = (cs.drop (i * (n + 1))).take (n + 1) ∧ c.length = n + 1 := fun i c' hc' => by
                have hlt : i < rs.length := by rw [d1]; exact (List.getElem?_eq_some_iff.1 hc').1
                have e1 : rs[i]? = some rs[i] := List.getElem?_eq_getElem hlt
                refine ⟨rs[i], e1, d2 _ _ _ e1 hc', rowsOf_get hrs e1, ?_⟩
                have := List.all_eq_true.1 hb4 rs[i] (List.getElem_mem hlt)
                exact beq_true this
              have hRs : ∀ (i : Nat) (c' : List D), es[i]? = some c' → c'.length = n + 1 ∧ ∀ (j : Nat) (d : D) (v : Value), c'[j]? = some d → r[i * (n + 1) + j]? = some v → RD w (Im F (fr ++ s.H) ι) v d := fun i c' hc' => by
                obtain ⟨c, e1, e2, e3, e4⟩ := hrow i c' hc'
                obtain ⟨g1, g2⟩ := toDs_rd R1 (getH s.H) c c' (fun q hq => hA q (by
                  rw [mem_rowsL] at hq ⊢
                  obtain ⟨x, hx, hq⟩ := hq
                  rw [e3] at hx
                  exact ⟨x, List.mem_of_mem_drop (List.mem_of_mem_take hx), hq⟩)) e2
                refine ⟨by rw [← g1, e4], fun j d v hd hv => ?_⟩
                have hj : j < c.length := by rw [g1]; exact (List.getElem?_eq_some_iff.1 hd).1
                have e5 : c[j]? = some c[j] := List.getElem?_eq_getElem hj
                have e6 : cs[i * (n + 1) + j]? = some c[j] := by
                  rw [← e5]
                  conv => rhs; rw [e3]
                  rw [List.getElem?_take, if_pos (by omega), List.getElem?_drop]
                exact g2 j v _ d e5 hd ((hrr.2 _ _ _ hv e6).carry' hc1)
              have hlen : es.length = len := by rw [← d1, hbl]
              have hsize : len * (n + 1) ≤ r.size := by
                rw [hrr.1]
                cases hlen0 : len with
                | zero => simp
                | succ m =>
                  have hm : m < rs.length := by omega
                  have e1 : rs[m]? = some rs[m] := List.getElem?_eq_getElem hm
                  have e2 := rowsOf_get hrs e1
                  have e3 := beq_true (List.all_eq_true.1 hb4 rs[m] (List.getElem_mem hm))
                  rw [e2] at e3
                  simp at e3
                  rw [Nat.add_mul]
                  omega
              obtain ⟨ι', R2, hι⟩ := R1.row (Free.froze hk hF) r el (sz := n + 1) (es := es) (by rw [hlen]; exact hsize) (fun i c' hc' => (hRs i c' hc').1) (fun i j c' d v hc' hd hv => (hRs i c' hc').2 j d v hd hv) 0 (Nat.zero_le _)
              refine goal_value (v := .slice (some ⟨w.heap.size, 0, none⟩) len len) (w' := w.alloc (.cells r el)) ?_ R2 ?_
              · have h24' : ¬ (len * (n + 1) > 2 ^ 24) := by omega
                have hr' : Instr.fill (fun i => some (i * (n + 1), n + 1)) ((Array.range (len * (n + 1))).map (zv.cells[· % zv.cells.size]!)) (parts.map fun x => (x.1, a.eval x.2)).toList = some r := by
                  rw [Array.toList_map]; exact hr
                have hpos : 0 < len := Nat.le_of_ble_eq_true hb6
                have hz0 : ¬ (len * (n + 1) = 0) := by
                  have := Nat.mul_le_mul hpos (Nat.le_add_left 1 n)
                  omega
                have hr2 : Instr.fill (fun i => some (i * n.succ, n.succ)) ((Array.range (len * n.succ)).map (zv.cells[· % zv.cells.size]!)) (parts.map fun x => (x.1, a.eval x.2)).toList = some r := hr'
                have h24'' : ¬ (len * n.succ > 2 ^ 24) := h24'
                have hz0' : ¬ (len * n.succ = 0) := hz0
                simp only [execOp, Instr.buildSlice, Sem.run_bind, run_underlying hu, Result.andThen_ok, run_sizeOf' hn, h24'', if_false, hz0', zeroValue, typeInfo, hi, hzv, Sem.run_pure, run_program]
                rw [hr2]
                simp [newRow]
              · have := RV.msl (w := w.alloc (.cells r el)) (I := Im F ((h.k, some (Ob.row (n + 1) es 0)) :: (fr ++ s.H)) ι') (ι := ι') h.k 0 len none (some len) len (by rw [hι]; simp [hlen]) (Nat.le_refl _) (fun k hk => by simpa using hk) (by rw [hι]; simp [hlen]) (by rw [hι]; simpa using hsize)
                rw [hι] at this
                simpa using this
          · cases hs
        · cases hs
      · cases hs
    · cases hs
  · cases hs
end
end Go.Ab
