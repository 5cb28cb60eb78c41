/-
  A LAYER OVER THE KIT's 'Code.wp' (part 11): made slices, stores, appends.
  Conditions: none. No project text.
-/
import Derived.Test.YtgefhpoejihneaaAb10
namespace Go.Ab
set_option linter.unusedVariables false
set_option linter.unusedSimpArgs false

theorem mem_iff {l : List Nat} {k : Nat} : mem l k = true ↔ k ∈ l := by
  induction l with
  | nil => simp [mem]
  | cons x xs ih =>
    simp only [mem, Bool.or_eq_true, ih, List.mem_cons]
    constructor
    · rintro (h | h)
      · exact .inl (beq_true h).symm
      · exact .inr h
    · rintro (h | h)
      · subst h; exact .inl (Nat.beq_refl _)
      · exact .inr h

section
variable {P : Program} {F : Nat → Nat → Prop} {w0 : World} {M0 : Nat → Nat → Prop} {ι0 : Nat → Loc} {s : St} {ι : Nat → Loc} {a : Act} {w : World} {e : Eff}
  {dst : Option Tmp} {ty : TypeId} {pos : String} {after : Array Edge} {guard : Option (Nat × Bool)} {h : Hint}

theorem wrap_nat {n : Nat} (h : n ≤ maxLen') : IntKind.i64.wrap (n : Int) = n := wrap_id (by unfold maxLen' at h; simp [lo, hi]; omega)

theorem zeroD_rd {t : TypeId} {z : List D} (hz : zeroD P t = some z) : ∃ i zv, P.info? t = some i ∧ i.zero = some zv ∧ zv.cells.size = z.length ∧
    ∀ (w : World) (I : Nat → Nat → Prop) (j : Nat) (v : Value) (d : D), zv.cells[j]? = some v → z[j]? = some d → RD w I v d := by
  unfold zeroD at hz
  cases hi : P.info? t with
  | none => rw [hi] at hz; cases hz
  | some i =>
    rw [hi] at hz
    simp only [Option.bind_some] at hz
    split at hz
    · rename_i zv hzv
      cases hb : zv.cells.toList.all flat with
      | false => rw [hb] at hz; cases hz
      | true =>
        rw [hb] at hz
        simp only [cond_true, Option.some.injEq] at hz
        subst hz
        refine ⟨i, zv, rfl, hzv, by simp, fun w I j v d hv hd => ?_⟩
        simp only [List.getElem?_map, Array.getElem?_toList, hv, Option.map_some, Option.some.injEq] at hd
        subst hd
        exact .v v (List.all_eq_true.1 hb v (by simpa using Array.mem_of_getElem? hv))
    · cases hz

theorem g_makeSlice {t : TypeId} {l c : Operand} (R : Rel F w0 M0 ι0 s ι a w) (hs : sem P (.makeSlice t l c) h s.ev (getH s.H) = some e) (ho : All e.obl) (hf : ∀ k, k ∈ e.new → s.free k = true) :
    Goal P ⟨dst, .makeSlice t l c, ty, pos, after, guard⟩ F w0 M0 ι0 s a w e := by
  have hl := ev_rv R l
  have hc := ev_rv R c
  simp only [sem] at hs
  split at hs
  · rename_i el kn n km m hu hbl hbc
    split at hs
    · rename_i i z hi hz
      cases hb : Nat.beq z.length i.size with
      | false => rw [hb] at hs; cases hs
      | true =>
        rw [hb] at hs
        simp only [cond_true, Option.some.injEq] at hs
        subst hs
        have hzl := beq_true hb
        have hk := free_spec (hf h.k (by simp))
        obtain ⟨ho1, ho2⟩ := All.append ho
        obtain ⟨hn, hm, h23, hby, hmx, _⟩ := ho1
        have hee := es_over (o := h.es) ho2 rfl
        rw [← hee]
        rw [hbl] at hl
        rw [hbc] at hc
        obtain ⟨e1, _⟩ := rv_v hl
        obtain ⟨e2, _⟩ := rv_v hc
        obtain ⟨i', zv, hi', hzv, hzs, hzr⟩ := zeroD_rd hz
        rw [hi] at hi'
        cases hi'
        have hsz : zv.cells.size = i.size := by rw [hzs, hzl]
        let cells : Array Value := (Array.range (h.k3 * i.size)).map (zv.cells[· % zv.cells.size]!)
        have hcs : cells.size = h.k3 * i.size := by simp [cells]
        obtain ⟨ι', R2, hι⟩ := R.row hk cells el (sz := i.size) (es := List.replicate h.k2 z) (by rw [hcs, List.length_replicate]; exact Nat.mul_le_mul_right _ h23)
          (fun j c' hc' => by rw [List.getElem?_replicate] at hc'; split at hc' <;> cases hc'; exact hzl) (fun j q c' d v hc' hd hv => by
            rw [List.getElem?_replicate] at hc'
            split at hc' <;> cases hc'
            have hq : q < i.size := by rw [← hzl]; exact (List.getElem?_eq_some_iff.1 hd).1
            have hlt : j * i.size + q < h.k3 * i.size := by rw [← hcs]; exact (Array.getElem?_eq_some_iff.1 hv).1
            have hmod : (j * i.size + q) % i.size = q := by rw [Nat.add_comm, Nat.add_mul_mod_self_right, Nat.mod_eq_of_lt hq]
            simp only [cells, Array.getElem?_map, Array.getElem?_range, hlt, if_true, Option.map_some, Option.some.injEq, hsz, hmod] at hv
            have hq' : q < zv.cells.size := by rw [hsz]; exact hq
            exact hzr w _ q v d (by rw [← hv, Array.getElem?_eq_getElem hq']; simp [hq']) hd) 0 (Nat.zero_le _)
        refine goal_value (v := .slice (some ⟨w.heap.size, 0, none⟩) h.k2 h.k3) (w' := w.alloc (.cells cells el)) ?_ R2 ?_
        · have w1 : IntKind.i64.wrap n = h.k2 := by rw [hn]; exact wrap_nat (by omega)
          have w2 : IntKind.i64.wrap m = h.k3 := by rw [hm]; exact wrap_nat hmx
          have g1 : ¬ ((h.k3 : Int) < 0) := by omega
          have g2 : ¬ ((i.bytes : Int) * (h.k3 : Int) > 281474976710656) := by
            have : (h.k3 * i.bytes : Nat) ≤ maxLen' := hby
            unfold maxLen' at this
            have h9 : ((h.k3 * i.bytes : Nat) : Int) = (i.bytes : Int) * (h.k3 : Int) := by rw [Nat.mul_comm]; exact Int.natCast_mul _ _
            omega
          have g3 : ¬ ((h.k3 : Int) < (h.k2 : Int)) := by omega
          have g4 : ¬ ((h.k2 : Int) < 0) := by omega
          simp [execOp, Instr.makeSlice, run_underlying hu, e1, e2, asInt, asIntOf, typeInfo, hi, w1, w2, g1, g2, g3, g4, sizeOf]
          by_cases hz0 : h.k3 * i.size = 0
          · have hce : cells = #[] := by
              apply Array.eq_empty_of_size_eq_zero
              rw [hcs]; exact hz0
            have e9 : ∀ f : Nat → Value, (Array.range 0).map f = #[] := fun f => Array.eq_empty_of_size_eq_zero (by simp)
            rw [if_pos hz0, hce, hz0]
            simp [newRow, e9]
          · rw [if_neg hz0]
            simp [zeroValue, typeInfo, hi, hzv, newRow, cells]
        · have := RV.msl (w := w.alloc (.cells cells el)) (I := Im F ((h.k, some (Ob.row i.size (List.replicate h.k2 z) 0)) :: s.H) ι') (ι := ι') h.k 0 h.k2 none (some h.k3) h.k3 (by rw [hι]; simp) h23 (fun k hk => by simpa using hk) (by rw [hι]; simp) (by rw [hι]; simp [hcs])
          rw [hι] at this
          simpa using this
    · cases hs
  · cases hs

theorem cut_get {α : Type} (l vs : List α) (o : Nat) (hle : o + vs.length ≤ l.length) (k : Nat) :
    (l.take o ++ vs ++ l.drop (o + vs.length))[k]? = if o ≤ k ∧ k < o + vs.length then vs[k - o]? else l[k]? := by
  by_cases h1 : k < o
  · rw [if_neg (by omega), List.append_assoc, List.getElem?_append_left (by simp; omega), List.getElem?_take, if_pos h1]
  · by_cases h2 : k < o + vs.length
    · rw [if_pos (by omega), List.append_assoc, List.getElem?_append_right (by simp; omega), List.getElem?_append_left (by simp; omega)]
      simp [Nat.min_eq_left (by omega : o ≤ l.length)]
    · rw [if_neg (by omega), List.getElem?_append_right (by simp; omega), List.getElem?_drop]
      congr 1
      simp
      omega

theorem heap_setRow_other (w : World) (g k : Nat) (cs : Array Value) (hk : k ≠ g) : (w.setRow g cs).heap[k]? = w.heap[k]? := by
  simp only [World.setRow, Array.getElem?_modify]
  rw [if_neg (by omega)]

/-- cells of a block are written -/
theorem run_storeVar {t ty : TypeId} {n b o : Nat} {v : Value} {cur : Array Value} (h1 : szT P t = some n) (hv : v.cells.size = n) (hg : w.heap[b]? = some (.cells cur ty (0, 0))) (hle : o + n ≤ cur.size)
    (h1c : ∀ u ∈ v.cells.toList, u.oneCell' = true) :
    (storeVar t ⟨b, o, none⟩ v).run P w = .ok () (w.setRow b (cur.toList.take o ++ v.cells.toList ++ cur.toList.drop (o + v.cells.toList.length)).toArray) := by
  have := run_storeCells_at P b o ty v.cells.toList 0 cur w hg (by simp; omega) h1c
  simp only [Nat.add_zero] at this
  simp [storeVar, run_sizeOf' h1, hv, this]

theorem all_one {I : Nat → Nat → Prop} {vs : Array Value} {cs : List A} (hr : RVs w I ι vs cs) (h1 : cs.all A.one = true) : ∀ u ∈ vs.toList, u.oneCell' = true := fun u hu => by
  obtain ⟨i, hi, rfl⟩ := List.getElem_of_mem hu
  have hi' : i < cs.length := by rw [← hr.1]; simpa using hi
  exact (hr.2 i _ cs[i] (by simp) (List.getElem?_eq_getElem hi')).one (List.all_eq_true.1 h1 _ (List.getElem_mem hi'))

theorem g_store {t : TypeId} {x v : Operand} (R : Rel F w0 M0 ι0 s ι a w) (hs : sem P (.store t x v) h s.ev (getH s.H) = some e) (ho : All e.obl) (hf : ∀ k, k ∈ e.new → s.free k = true) :
    Goal P ⟨dst, .store t x v, ty, pos, after, guard⟩ F w0 M0 ι0 s a w e := by
  have hx := ev_rv R x
  have hv := ev_rv R v
  simp only [sem] at hs
  split at hs
  · rename_i vs n hvs hn
    have hvr := hv.cells hvs
    cases hb : Nat.beq vs.length n && vs.all A.one with
    | false => rw [hb] at hs; cases hs
    | true =>
      rw [hb] at hs
      simp only [cond_true] at hs
      simp only [Bool.and_eq_true] at hb
      have hvn := beq_true hb.1
      have hone := all_one hvr hb.2
      have hsz : (a.eval v).cells.size = n := by rw [hvr.1, hvn]
      split at hs
      · rename_i r i j hxr
        rw [hxr] at hx
        cases hxx : a.eval x <;> rw [hxx] at hx <;> cases hx
        split at hs
        · rename_i cs hob
          cases hb2 : Nat.beq i 0 && Nat.ble (j + n) cs.length with
          | false => rw [hb2] at hs; cases hs
          | true =>
            rw [hb2] at hs
            simp only [cond_true, Option.some.injEq] at hs
            subst hs
            simp only [Bool.and_eq_true] at hb2
            obtain rfl := beq_true hb2.1
            have hle := Nat.le_of_ble_eq_true hb2.2
            obtain ⟨hlt, c, ty', h1, h2, h3, h4⟩ := R.obj r _ hob
            have hrun := run_storeVar (P := P) (w := w) (b := (ι r).b) (o := j) hn hsz h1 (by rw [h3]; exact hle) hone
            have hlen : (a.eval v).cells.toList.length = vs.length := by simp [hvr.1]
            have hget : ∀ k, ((c.toList.take j ++ (a.eval v).cells.toList ++ c.toList.drop (j + (a.eval v).cells.toList.length)).toArray)[k]? = if j ≤ k ∧ k < j + vs.length then (a.eval v).cells[k - j]? else c[k]? := fun k => by
              rw [List.getElem?_toArray, cut_get _ _ _ (by simp [h3]; omega), hlen]
              simp
            have hsize : ((c.toList.take j ++ (a.eval v).cells.toList ++ c.toList.drop (j + (a.eval v).cells.toList.length)).toArray).size = c.size := by
              simp only [List.size_toArray, List.length_append, List.length_take, List.length_drop, Array.length_toList, hvr.1]
              omega
            generalize (c.toList.take j ++ (a.eval v).cells.toList ++ c.toList.drop (j + (a.eval v).cells.toList.length)).toArray = c2 at *
            refine goal_skip (w' := w.setRow (ι r).b c2) (ι' := ι) ?_ (R.write hob rfl rfl rfl (by simp) (fun b hb => heap_setRow_other _ _ _ _ hb) (fun o x _ hlt => by simp [Ob.from] at hlt) (Nat.le_refl _) fun I hc => ?_) rfl
            · simp [execOp, Instr.storeAt, hxx, Instr.sureAddr, h2, hrun]
            · refine ⟨c2, ty', setRow_heap w _ c _ ty' _ h1, h2, ?_, fun k u y hu hy => ?_⟩
              · rw [hsize, splice_len _ _ _ (by omega), h3]
              · rw [hget] at hu
                rw [splice_get _ _ _ (by omega)] at hy
                split at hu
                · rename_i hk
                  rw [if_pos hk] at hy
                  exact (hvr.2 _ _ _ hu hy).carry' hc
                · rename_i hk
                  rw [if_neg hk] at hy
                  exact (h4 _ _ _ hu hy).carry' hc
        · rename_i sz es fz hob
          split at hs
          · rename_i ds fr hds hfr
            cases hb3 : mem (A.rowsL vs) r with
            | true => rw [hb3] at hs; cases hs
            | false =>
              rw [hb3] at hs
              simp only [cond_false, Option.some.injEq] at hs
              subst hs
              obtain ⟨ho1, ho2⟩ := All.append ho
              obtain ⟨hes, hle, hfz, _⟩ := ho1
              have hee := es_over (o := h.es) ho2 rfl
              rw [← hee]
              obtain ⟨R1, hF, hA, hN⟩ := frz_rel R _ _ hfr
              have hob1 : getH (fr ++ s.H) r = some (.row sz es fz) := by
                rw [hN r fun hm => by rw [mem_iff.2 hm] at hb3; cases hb3]
                exact hob
              obtain ⟨g1, g2⟩ := toDs_rd R1 (getH s.H) vs ds hA hds
              obtain ⟨hlt, c, ty', h1, h2, h3, h4, h5, h6, h7, h8⟩ := R1.obj r _ hob1
              have hi : i < es.length := (List.getElem?_eq_some_iff.1 hes).1
              have hcl := h7 i _ hes
              have hpos : (ι r).off + i * sz + j + n ≤ c.size := by
                have : (i + 1) * sz ≤ es.length * sz := Nat.mul_le_mul_right _ hi
                rw [Nat.add_mul] at this
                omega
              have hrun := run_storeVar (P := P) (w := w) (b := (ι r).b) (o := (ι r).off + i * sz + j) hn hsz h1 hpos hone
              have hlen : (a.eval v).cells.toList.length = vs.length := by simp [hvr.1]
              have hc1 : Carry w (Im F s.H ι) w (Im F (fr ++ s.H) ι) := Froze.carry R hF
              generalize hpo : (ι r).off + i * sz + j = p at *
              have hget : ∀ k, ((c.toList.take p ++ (a.eval v).cells.toList ++ c.toList.drop (p + (a.eval v).cells.toList.length)).toArray)[k]? = if p ≤ k ∧ k < p + vs.length then (a.eval v).cells[k - p]? else c[k]? := fun k => by
                rw [List.getElem?_toArray, cut_get _ _ _ (by simp; omega), hlen]
                simp
              have hsize : ((c.toList.take p ++ (a.eval v).cells.toList ++ c.toList.drop (p + (a.eval v).cells.toList.length)).toArray).size = c.size := by
                simp only [List.size_toArray, List.length_append, List.length_take, List.length_drop, Array.length_toList, hvr.1]
                omega
              generalize (c.toList.take p ++ (a.eval v).cells.toList ++ c.toList.drop (p + (a.eval v).cells.toList.length)).toArray = c2 at *
              have hdl : ds.length = n := by rw [← g1, hvn]
              refine goal_skip (w' := w.setRow (ι r).b c2) (ι' := ι) ?_ (R1.write hob1 rfl rfl rfl (by simp) (fun b hb => heap_setRow_other _ _ _ _ hb) (fun o u hu hlt => ?_) (Nat.le_refl _) fun I hc => ?_) rfl
              · simp [execOp, Instr.storeAt, hxx, Instr.sureAddr, h2, hpo, hrun]
              · simp only [Ob.from] at hlt
                have hfi : fz * sz ≤ i * sz := Nat.mul_le_mul_right _ hfz
                simp only [World.cell?, h1] at hu
                simp only [World.cell?, setRow_heap w _ c _ ty' _ h1]
                simp at hu
                simp only [Option.isSome_none, Bool.false_eq_true, if_false]
                rw [hget, if_neg (by omega)]
                exact hu
              · refine ⟨c2, ty', setRow_heap w _ c _ ty' _ h1, h2, by rw [hsize, h3], by simp [h4], by rw [hsize, List.length_set]; exact h5, by simpa using h6, fun k c' hc' => ?_, fun k q c' d u hc' hd hu => ?_⟩
                · rw [List.getElem?_set] at hc'
                  split at hc'
                  · rename_i hik
                    subst hik
                    simp only [hi, if_true, Option.some.injEq] at hc'
                    subst hc'
                    rw [splice_len _ _ _ (by omega)]
                    exact hcl
                  · exact h7 k c' hc'
                · rw [hget] at hu
                  rw [List.getElem?_set] at hc'
                  have hq : q < sz := by
                    have hql := (List.getElem?_eq_some_iff.1 hd).1
                    split at hc'
                    · rename_i hik
                      subst hik
                      simp only [hi, if_true, Option.some.injEq] at hc'
                      subst hc'
                      rw [splice_len _ _ _ (by omega), hcl] at hql
                      exact hql
                    · rw [h7 k c' hc'] at hql; exact hql
                  split at hc'
                  · rename_i hik
                    subst hik
                    simp only [hi, if_true, Option.some.injEq] at hc'
                    subst hc'
                    rw [splice_get _ _ _ (by omega)] at hd
                    by_cases hin : j ≤ q ∧ q < j + ds.length
                    · rw [if_pos hin] at hd
                      rw [if_pos (by omega)] at hu
                      have e5 : (ι r).off + i * sz + q - p = q - j := by omega
                      rw [e5] at hu
                      have hqj : q - j < vs.length := by omega
                      exact (g2 (q - j) u _ d (List.getElem?_eq_getElem hqj) hd ((hvr.2 _ _ _ hu (List.getElem?_eq_getElem hqj)).carry' hc1)).carry hc
                    · rw [if_neg hin] at hd
                      rw [if_neg (by omega)] at hu
                      exact (h8 i q _ d u hes hd hu).carry hc
                  · rename_i hik
                    rw [if_neg (fun hh => hik (by
                      have hk : k < es.length := (List.getElem?_eq_some_iff.1 hc').1
                      rcases Nat.lt_trichotomy i k with h9 | h9 | h9
                      · exfalso
                        have : (i + 1) * sz ≤ k * sz := Nat.mul_le_mul_right _ h9
                        rw [Nat.add_mul] at this
                        omega
                      · exact h9
                      · exfalso
                        have : (k + 1) * sz ≤ i * sz := Nat.mul_le_mul_right _ h9
                        rw [Nat.add_mul] at this
                        omega))] at hu
                    exact (h8 k q c' d u hc' hd hu).carry hc
          · cases hs
        · cases hs
      · cases hs
  · cases hs
end
end Go.Ab
