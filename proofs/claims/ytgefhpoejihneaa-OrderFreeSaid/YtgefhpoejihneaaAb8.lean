/-
  A LAYER OVER THE KIT's 'Code.wp' (part 8): the evaluator is right about slice expressions, new objects, stores, appends.
  Conditions: none. No project text.
-/
import Derived.Test.YtgefhpoejihneaaAb7
namespace Go.Ab
set_option linter.unusedVariables false
set_option linter.unusedSimpArgs false

section
variable {P : Program} {F : Nat → Nat → Prop} {w0 : World} {M0 : Nat → Nat → Prop} {ι0 : Nat → Loc} {s : St} {ι : Nat → Loc} {a : Act} {w : World} {e : Eff}
  {dst : Option Tmp} {ty : TypeId} {pos : String} {after : Array Edge} {guard : Option (Nat × Bool)} {h : Hint}

/-- a bound that is there, or not -/
def Bound (v : Option Value) (k d : Nat) (n : Nat) : Prop := (v = none ∧ n = d) ∨ (∃ kd, v = some (.int kd (k : Int)) ∧ n = k)

theorem run_bounds {b : Bool} {len cap : Nat} {lv hv mv : Option Value} {L H M kl kh km : Nat} (hl : Bound lv kl 0 L) (hh : Bound hv kh len H) (hm : Bound mv km cap M) (hno : hv = none → mv = none)
    (h1 : L ≤ H) (h2 : H ≤ M) (h3 : M ≤ cap) : (Instr.sliceBounds b len cap lv hv mv).run P w = .ok (L, H, M) w := by
  have sb : ∀ (kd : IntKind) (k y : Nat) (c : BoundsCode), k ≤ y → (Instr.sliceBound (.int kd (k : Int)) y c).run P w = .ok k w := fun kd k y c hk => by
    rw [run_sliceBound w kd k y c (by omega) (by omega)]; simp
  rcases hm with ⟨rfl, rfl⟩ | ⟨km', rfl, rfl⟩
  · rcases hh with ⟨rfl, rfl⟩ | ⟨kh', rfl, rfl⟩
    · rcases hl with ⟨rfl, rfl⟩ | ⟨kl', rfl, rfl⟩
      · simp [Instr.sliceBounds]
      · simp [Instr.sliceBounds, sb _ _ _ _ h1]
    · rcases hl with ⟨rfl, rfl⟩ | ⟨kl', rfl, rfl⟩
      · simp [Instr.sliceBounds, sb _ _ _ _ h2]
      · simp [Instr.sliceBounds, sb _ _ _ _ h1, sb _ _ _ _ h2]
  · rcases hh with ⟨rfl, rfl⟩ | ⟨kh', rfl, rfl⟩
    · exact absurd (hno rfl) (by simp)
    · rcases hl with ⟨rfl, rfl⟩ | ⟨kl', rfl, rfl⟩
      · simp [Instr.sliceBounds, sb _ _ _ _ h2, sb _ _ _ _ h3]
      · simp [Instr.sliceBounds, sb _ _ _ _ h1, sb _ _ _ _ h2, sb _ _ _ _ h3]

theorem bnd_bound {x : Option Operand} {k : Nat} {ob : List Prop} (R : Rel F w0 M0 ι0 s ι a w) (hb : bnd (x.map s.ev) k = some ob) (ho : All ob) (d : Nat) :
    Bound (x.map a.eval) k d (bif x.isSome then k else d) := by
  cases x with
  | none => exact .inl ⟨rfl, rfl⟩
  | some y =>
    have hy := ev_rv R y
    simp only [Option.map_some] at hb
    cases hev : s.ev y <;> rw [hev] at hb hy <;> try (simp [bnd] at hb; done)
    rename_i dd
    cases dd <;> try (simp [bnd] at hb; done)
    rename_i vv
    cases vv <;> try (simp [bnd] at hb; done)
    rename_i kd n
    simp only [bnd, Option.some.injEq] at hb
    subst hb
    have hn : n = (k : Int) := ho.1
    obtain ⟨e1, _⟩ := rv_v hy
    exact .inr ⟨kd, by simp [e1, hn], rfl⟩

theorem sub_rd {I : Nat → Nat → Prop} {b off sz cap L H : Nat} {es : List (List D)} {f : Nat → Nat → Value} (ln : Option Nat) (hln : ln.getD (es.length - L) = H - L) (h1 : L ≤ H) (h2 : H ≤ es.length) (hc : H - L ≤ cap)
    (hs : ∀ (i : Nat) (c : List D), es[i]? = some c → c.length = sz)
    (hm : ∀ (i j : Nat) (c : List D) (d : D), es[i]? = some c → c[j]? = some d → w.cell? ⟨b, off + i * sz + j, none⟩ = some (f i j) ∧ I b (off + i * sz + j))
    (hr : ∀ (i j : Nat) (c : List D) (d : D), es[i]? = some c → c[j]? = some d → RD w I (f i j) d) :
    RD w I (.slice (some ⟨b, off + L * sz, none⟩) (H - L) cap) (.sl (sub L ln es)) := by
  have hlen : (sub L ln es).length = H - L := by rw [sub_len _ _ _ (by omega), hln]
  have hget : ∀ (i : Nat) (c : List D), (sub L ln es)[i]? = some c → es[L + i]? = some c := fun i c hi => by
    have hlt : i < (sub L ln es).length := (List.getElem?_eq_some_iff.1 hi).1
    rwa [sub_get _ _ _ _ (by omega)] at hi
  rw [← hlen]
  refine .sl b (off + L * sz) sz cap _ (fun i j => f (L + i) j) (by omega) (fun i c hi => hs _ _ (hget i c hi)) (fun i j c d hi hd => ?_) (fun i j c d hi hd => hr _ _ _ _ (hget i c hi) hd)
  have := hm _ _ _ _ (hget i c hi) hd
  rwa [Nat.add_mul, ← Nat.add_assoc] at this

theorem q_slice {t : TypeId} {x : Operand} {l hh m : Option Operand} (R : Rel F w0 M0 ι0 s ι a w) (hs : sem P (.slice t x l hh m) h s.ev (getH s.H) = some e) (ho : All e.obl) : Quiet F P ⟨dst, .slice t x l hh m, ty, pos, after, guard⟩ s ι a w e := by
  have hx := ev_rv R x
  simp only [sem, semSlice, Option.isSome_map] at hs
  split at hs
  · rename_i ol oh om hol hoh hom
    split at hs
    · rename_i str hu hb
      rw [hb] at hx
      obtain ⟨e1, _⟩ := rv_v hx
      cases m with
      | some m => cases hs
      | none =>
        simp only [Option.isSome_none, cond_false, Option.some.injEq] at hs
        subst hs
        obtain ⟨hoo, h1, h2, _⟩ := All.append ho
        obtain ⟨hol', hoh'⟩ := All.append hoo
        have hB := run_bounds (P := P) (w := w) (b := false) (len := str.size) (cap := str.size) (mv := none) (km := 0) (bnd_bound R hol hol' 0) (bnd_bound R hoh hoh' str.size) (.inl ⟨rfl, rfl⟩) (fun _ => rfl) h1 h2 (Nat.le_refl _)
        refine ⟨rfl, rfl, .string (str.extract (bif l.isSome then h.k else 0) (bif hh.isSome then h.k2 else str.size)), ?_, rv_mk rfl⟩
        simp [execOp, Instr.sliceAt, run_underlying hu, Instr.slice, e1, hB]
    · rename_i el es hu hb
      rw [hb] at hx
      split at hs
      · rename_i n hn
        cases m with
        | some m => cases hs
        | none =>
          simp only [Option.isSome_none, cond_false, Option.some.injEq] at hs
          subst hs
          obtain ⟨hoo, h1, h2, h3, _⟩ := All.append ho
          obtain ⟨hol', hoh'⟩ := All.append hoo
          have hbl := bnd_bound R hol hol' 0
          have hbh := bnd_bound R hoh hoh' es.length
          generalize hL : (bif l.isSome then h.k else 0) = L at *
          generalize hH : (bif hh.isSome then h.k2 else es.length) = H at *
          rcases rd_sl (rv_d hx) with ⟨b, off, sz', cap, f, hv, hc, hss, hm, hr⟩ | ⟨a', cap, hv, he⟩
          · have hB := run_bounds (P := P) (w := w) (b := true) (len := es.length) (cap := cap) (mv := none) (km := 0) hbl hbh (.inl ⟨rfl, rfl⟩) (fun _ => rfl) h1 (Nat.le_trans h2 hc) (Nat.le_refl _)
            have hrun : ∀ v, v = (Value.slice (if cap = L then some ⟨b, off, none⟩ else some ⟨b, off + L * n, none⟩) (H - L) (cap - L)) → (execOp a.eval ⟨dst, .slice t x l hh none, ty, pos, after, guard⟩).run P w = .ok (.value v) w := by
              rintro v rfl
              simp [execOp, Instr.sliceAt, run_underlying hu, Instr.slice, hv, hB, run_sizeOf' hn]
              split <;> simp [add_addr]
            by_cases he : cap = L
            · have e0 : H - L = 0 := by omega
              refine ⟨rfl, rfl, _, hrun _ rfl, .d ?_⟩
              have e1 : sub L (bif hh.isSome then some (H - L) else none) es = [] := by
                apply List.eq_nil_of_length_eq_zero
                have hHl : H = es.length ∨ hh.isSome = true := by cases hh <;> simp_all
                rcases hHl with hHl | hHl
                · cases hh with
                  | none => rw [sub_len] <;> simp <;> omega
                  | some y => rw [sub_len] <;> simp <;> omega
                · rw [hHl]; rw [sub_len] <;> simp <;> omega
              rw [e1, e0]
              exact .emp _ _
            · refine ⟨rfl, rfl, _, hrun _ rfl, .d ?_⟩
              rw [if_neg he]
              have hsz : L < H → sz' = n := fun hlt => by
                have hlt' : 0 < es.length := by omega
                have h4 := hss 0 es[0] (List.getElem?_eq_getElem hlt')
                rw [← h4]
                exact h3 _ (List.getElem_mem hlt')
              by_cases hlt : L < H
              · have := hsz hlt
                subst this
                refine sub_rd _ ?_ h1 h2 (by omega) hss hm hr
                cases hh with
                | none => simp at hH ⊢; omega
                | some y => simp
              · have e0 : H - L = 0 := by omega
                have e1 : sub L (bif hh.isSome then some (H - L) else none) es = [] := by
                  apply List.eq_nil_of_length_eq_zero
                  cases hh with
                  | none => simp at hH; rw [sub_len] <;> simp <;> omega
                  | some y => rw [sub_len] <;> simp <;> omega
                rw [e1, e0]
                exact .emp _ _
          · subst he
            simp only [List.length_nil] at h2 hbh
            obtain rfl : H = 0 := by omega
            obtain rfl : L = 0 := by omega
            have hB := run_bounds (P := P) (w := w) (b := true) (len := 0) (cap := cap) (mv := none) (km := 0) hbl hbh (.inl ⟨rfl, rfl⟩) (fun _ => rfl) h1 (Nat.zero_le _) (Nat.le_refl _)
            refine ⟨rfl, rfl, .slice (if cap = 0 then a' else a'.map (·.add 0)) 0 cap, ?_, .d ?_⟩
            · simp [execOp, Instr.sliceAt, run_underlying hu, Instr.slice, hv, hB, run_sizeOf' hn]
            · have e1 : sub 0 (bif hh.isSome then some (0 - 0) else none) ([] : List (List D)) = [] := by cases hh <;> simp [sub]
              rw [e1]
              exact .emp _ _
      · cases hs
    · rename_i el r lo0 ln cap hu hb
      rw [hb] at hx
      split at hs
      · rename_i sz es fz sz' hob hsz
        cases hbq : Nat.beq sz sz' && (hh.isSome || !m.isSome) with
        | false => rw [hbq] at hs; cases hs
        | true =>
          rw [hbq] at hs
          simp only [cond_true, Option.some.injEq] at hs
          subst hs
          simp only [Bool.and_eq_true] at hbq
          obtain rfl := beq_true hbq.1
          have hno : hh.map a.eval = none → m.map a.eval = none := fun hz => by
            have h5 := hbq.2
            cases hh <;> cases m <;> simp_all
          obtain ⟨hoo, hom2⟩ := All.append ho
          obtain ⟨hoo, h1, h2, h3, _⟩ := All.append hoo
          obtain ⟨hoo, hom'⟩ := All.append hoo
          obtain ⟨hol', hoh'⟩ := All.append hoo
          obtain ⟨_, c, ty', g1, g2, g3, g4, g5, g6, g7, g8⟩ := R.obj r _ hob
          have hbl := bnd_bound R hol hol' 0
          have hbh := bnd_bound R hoh hoh' (lenOf lo0 ln es.length)
          generalize hL : (bif l.isSome then h.k else 0) = L at *
          generalize hH : (bif hh.isSome then h.k2 else lenOf lo0 ln es.length) = H at *
          have hlen : lenOf lo0 ln es.length = ln.getD ((ι r).n - lo0) := by rw [lenOf_eq, g4]
          rcases rv_msl hx with ⟨cp, hv, hc1, hk1, hn1, ht1⟩ | ⟨a', hv, hl0, hk0⟩
          · have hmost : cap.getD (lenOf lo0 ln es.length) ≤ cp := by
              cases cap with
              | none => simp [hlen]; exact hc1
              | some k => simp [hk1 k rfl]
            have hbm := bnd_bound R hom hom' cp
            have hM : ∃ M, Bound (m.map a.eval) h.k3 cp M ∧ H ≤ M ∧ M ≤ cp ∧ M = (bif m.isSome then h.k3 else cp) := by
              refine ⟨_, hbm, ?_, ?_, rfl⟩
              · cases m with
                | none => simp; omega
                | some y => simp at hom2 ⊢; exact hom2.1
              · cases m with
                | none => simp
                | some y => simp at hom2 ⊢; have := hom2.2.1; omega
            obtain ⟨M, hbm', hM1, hM2, hMe⟩ := hM
            have hB := run_bounds (P := P) (w := w) (b := true) (len := ln.getD ((ι r).n - lo0)) (cap := cp) hbl (by rw [← hlen]; exact hbh) hbm' hno h1 hM1 hM2
            have hrun : (execOp a.eval ⟨dst, .slice t x l hh m, ty, pos, after, guard⟩).run P w = .ok (.value (.slice (if M = L then some ⟨(ι r).b, (ι r).off + lo0 * (ι r).sz, none⟩ else some ⟨(ι r).b, (ι r).off + (lo0 + L) * (ι r).sz, none⟩) (H - L) (M - L))) w := by
              simp [execOp, Instr.sliceAt, run_underlying hu, Instr.slice, hv, hB, run_sizeOf' hsz, g2]
              split <;> simp [add_addr, Nat.add_mul, Nat.add_assoc]
            have hlnH : (bif hh.isSome || ln.isSome then some (H - L) else none).getD ((ι r).n - (lo0 + L)) = H - L := by
              cases hh with
              | some y => simp
              | none =>
                cases ln with
                | some k => simp
                | none => simp [lenOf_eq] at hH ⊢; omega
            have hcap : ∀ k, (bif m.isSome then some (h.k3 - L) else cap.map (· - L)) = some k → M - L = k := fun k hk => by
              rw [hMe]
              cases m with
              | some y => simpa using hk
              | none =>
                cases cap with
                | none => simp at hk
                | some q => simp at hk ⊢; rw [hk1 q rfl]; exact hk
            refine ⟨rfl, rfl, _, hrun, ?_⟩
            rw [plus_eq]
            by_cases he : M = L
            · rw [if_pos he]
              have e0 : H - L = 0 := by omega
              have e1 : M - L = 0 := by omega
              rw [e0, e1]
              exact .mslz r (lo0 + L) _ _ _ (by have h7 := hlnH; rw [e0] at h7; exact h7) (fun k hk => by rw [← hcap k hk, e1])
            · rw [if_neg he]
              refine .msl r (lo0 + L) _ _ _ _ hlnH.symm (by omega) hcap (by omega) ?_
              have : (lo0 + L + (M - L)) * (ι r).sz ≤ (lo0 + cp) * (ι r).sz := Nat.mul_le_mul_right _ (by omega)
              omega
          · have hl0' : lenOf lo0 ln es.length = 0 := by rw [hlen]; exact hl0
            have hmost : cap.getD (lenOf lo0 ln es.length) = 0 := by
              cases cap with
              | none => simp [hl0']
              | some k => simp; exact (hk0 k rfl).symm
            rw [hmost] at h3
            obtain rfl : H = 0 := by omega
            obtain rfl : L = 0 := by omega
            have hbm := bnd_bound R hom hom' 0
            have hM : (bif m.isSome then h.k3 else 0) = 0 := by
              cases m with
              | none => rfl
              | some y =>
                simp only [Option.isSome_some, cond_true] at hom2 ⊢
                have h6 := hom2.2.1
                rw [hmost] at h6
                omega
            rw [hM] at hbm
            have hbh' := hbh
            rw [hl0'] at hbh'
            have hB := run_bounds (P := P) (w := w) (b := true) (len := 0) (cap := 0) hbl hbh' hbm hno h1 (Nat.le_refl _) (Nat.le_refl _)
            refine ⟨rfl, rfl, .slice a' 0 0, ?_, ?_⟩
            · simp [execOp, Instr.sliceAt, run_underlying hu, Instr.slice, hv, hB, run_sizeOf' hsz]
            · rw [plus_eq]
              refine .mslz r (lo0 + 0) _ _ _ ?_ (fun k hk => ?_)
              · cases hh with
                | some y => simp
                | none =>
                  cases ln with
                  | some k => simp
                  | none => simpa using hl0
              · cases m with
                | some y => simp at hk hM; omega
                | none =>
                  cases cap with
                  | none => simp at hk
                  | some q => simp at hk; have := hk0 q rfl; omega
      · cases hs
    · cases hs
  · cases hs
end
end Go.Ab
