/-
  TEXTS PUT TOGETHER: ClE, ClD.
-/
import Derived.Test.YtpefcgiiigdcdaaGreatLC
import Derived.Lib.SliceRun
import Derived.Deep.RegionLaw
section
/-
  A CLONE OF AN EMPTY SLICE IS EMPTY.
-/
namespace Go.Ab
open Go.Proofs Go.Proofs.YtpefcgiiigdcdaaGreat Go.ChangeShapes Go.WideShapes Go.ChangeAt Go.RowKit
set_option linter.unusedVariables false
variable {P : Program}
theorem cl_eqlIn {t e : TypeId} (h : P.underlying t = some (.slice e)) (w : World) (d : Nat) (p : Option Addr) (c : Nat) : (Op.equalIn (d + 1) t (.slice p 0 c) (.slice none 0 0)).run P w = .ok p.isNone w := by
  cases p <;> simp [Op.equalIn, run_underlying h]
theorem cl_eql {t e : TypeId} (hu : P.underlying t = some (.slice e)) (w : World) (p : Option Addr) (c : Nat) : (binOp .eql t (.slice p 0 c) (.slice none 0 0)).run P w = .ok (.bool p.isNone) w := by
  simp only [binOp]
  simp [Op.equal, Op.maxDepth, cl_eqlIn hu w 9999]
set_option maxRecDepth 100000 in
theorem clone_walk (p : Option Addr) (c : Nat) (w : World) : Calls Tryz.prog 117 #[.slice p 0 c] w fun e w' => (∃ p c, e = .returned (.slice p 0 c)) ∧ (w' = w ∨ w' = w.alloc (.cells #[] 3)) := by
  cases p with
  | none =>
    go_enter Tryz.func117, Tryz.ntmps117
    go_wp2
    simp only [cl_eql Tryz.underlying46, Result.andThen_ok, Oper.upon_value, Option.isNone_none]
    go_wp2
    all_goals go_ret
    all_goals exact ⟨⟨_, _, rfl⟩, .inl rfl⟩
  | some a =>
    go_enter Tryz.func117, Tryz.ntmps117
    go_wp2
    simp only [cl_eql Tryz.underlying46, Result.andThen_ok, Oper.upon_value, Option.isNone_some]
    go_wp2
    all_goals go_ret
    all_goals exact ⟨⟨_, _, rfl⟩, .inr rfl⟩
theorem evo_alloc (M : Nat → Nat → Prop) (w : World) (o : Obj) : Evo M w (w.alloc o) :=
  ⟨rfl, tp_rfl, rfl, by simp, fun b q x h _ => by rw [World.cell?_alloc_lt _ _ _ (World.block_lt_of_cell? w _ h)]; exact h, fun b hb _ => heap_alloc_old _ _ hb⟩
theorem clone_empty : ACallsD Tryz.prog 117 0 [SL (cI .i64) []] [] (SL (cI .i64) []) [] := by
  intro F w ι vs hp
  obtain ⟨v, rfl⟩ : ∃ v, vs = #[v] := by
    have := hp.n
    cases vs with
    | mk l => cases l with
      | nil => simp at this
      | cons v l => cases l with
        | nil => exact ⟨v, rfl⟩
        | cons u l => simp at this
  have hv := hp.arg 0 v _ rfl rfl
  obtain ⟨p, c, rfl⟩ : ∃ p c, v = .slice p 0 c := by
    rcases rd_sl (rv_d hv) with ⟨b, off, sz', cap, f, e1, _⟩ | ⟨a', cap, e1, _⟩
    · exact ⟨_, _, e1⟩
    · exact ⟨_, _, e1⟩
  refine (clone_walk p c w).mono fun e w' he => ?_
  obtain ⟨⟨q, d, rfl⟩, hw⟩ := he
  refine ⟨_, _, [], ι, rfl, ⟨rfl, rfl⟩, ⟨.d (.emp q d), fun k o h => by simp [getH] at h, fun k k' o o' h => by simp [getH] at h, ?_, fun b o h => .inr h, fun _ _ => rfl, fun r o h => by simp [getH] at h⟩⟩
  rcases hw with rfl | rfl
  · exact Evo.refl _ _
  · exact evo_alloc _ _ _
end Go.Ab
end

section
/-
  SLICES.DELETE AT NUMBERS, on a row that is handed over.
-/
namespace Go.Ab
open Go.Proofs Go.Proofs.YtpefcgiiigdcdaaGreat Go.RowKit Go.Lib
set_option linter.unusedVariables false

theorem setCells_setRow {P : Program} (w : World) (b o : Nat) (ty : TypeId) (vs : List Value) (cur : Array Value) (hg : w.heap[b]? = some (.cells cur ty (0, 0))) (hle : o + vs.length ≤ cur.size) (h1 : ∀ u ∈ vs, u.oneCell' = true) :
    w.setCells b o vs = w.setRow b (cur.toList.take o ++ vs ++ cur.toList.drop (o + vs.length)).toArray := by
  have e1 := run_storeCells_at P b o ty vs 0 cur w hg (by simpa using hle) h1
  have hs : ∀ j, j < vs.length → cur[o + j]? ≠ none := fun j hj => by simp; omega
  have e2 := run_storeCells_cells (P := P) b o vs 0 w (fun j hj => by
    simp only [World.cell?, hg]
    simp
    omega) (fun j hj => by simp [World.frozen?, hg]) h1
  rw [e1] at e2
  simp only [Nat.add_zero, Result.ok.injEq, true_and] at e2
  exact e2.symm

theorem info3 : (Tryz.prog.info? 3).map (fun i => (i.zero, i.size, i.bytes)) = some (some (.int .i64 0), 1, 8) := by kernel_rfl
theorem zero3 : ∀ w : World, (zeroValue 3).run Tryz.prog w = .ok (.int .i64 0) w := fun w => by
  obtain ⟨i0, hi0, hz0, hz1, hz2⟩ := info_parts info3
  simp [zeroValue, typeInfo, hi0, hz0]

set_option maxHeartbeats 1600000 in
set_option maxRecDepth 1000000 in
theorem delete_walk (b off n cap i j : Nat) (news : List Value) (w : World) (hij : i < j) (hj : j ≤ n) (hl : n ≤ cap) (hn : news.length = n - j)
    (hc : ∀ t u, news[t]? = some u → w.cell? ⟨b, off + j + t, none⟩ = some u) (h1 : ∀ u ∈ news, u.oneCell' = true)
    (hs : ∀ t, t < n → (w.cell? ⟨b, off + t, none⟩).isSome = true) (hf : ∀ t, t < n → w.frozen? ⟨b, off + t, none⟩ = false)
    (hs2 : ∀ t, t < n → ((w.drew.setCells b (off + i) news).cell? ⟨b, off + t, none⟩).isSome = true) (hf2 : ∀ t, t < n → (w.drew.setCells b (off + i) news).frozen? ⟨b, off + t, none⟩ = false) :
    Calls Tryz.prog 118 #[.slice (some ⟨b, off, none⟩) n cap, .int .i64 i, .int .i64 j] w fun e w' => e = .returned (.slice (some ⟨b, off, none⟩) (i + (n - j)) cap) ∧
      w' = (w.drew.setCells b (off + i) news).setCells b (off + (i + (n - j))) (List.replicate (j - i) (.int .i64 0)) := by
  obtain ⟨i0, hi0, hz0, hz1, hz2⟩ := info_parts info3
  obtain ⟨A, hA, hsrc⟩ : ∃ A : Addr, (if cap = j then some (⟨b, off, none⟩ : Addr) else some ⟨b, off + j, none⟩) = some A ∧ Hid (∀ t u, news[t]? = some u → w.drew.cell? (A.add t) = some u) := by
    by_cases h : cap = j
    · refine ⟨⟨b, off, none⟩, by simp [h], fun t u hu => ?_⟩
      have h0 : news.length = 0 := by omega
      rw [List.length_eq_zero_iff.1 h0] at hu
      simp at hu
    · refine ⟨⟨b, off + j, none⟩, by simp [h], fun t u hu => ?_⟩
      rw [Addr.add_lit]
      exact hc t u hu
  have s1 : Hid (news.length = (n - j) * 1) := by rw [Nat.mul_one]; exact hn
  have s2 : Hid (∀ u ∈ news, u.oneCell' = true) := h1
  have s3 : Hid (∀ t, t < news.length → (w.drew.cell? ⟨b, off + i * 1 + t, none⟩).isSome = true ∧ w.drew.frozen? ⟨b, off + i * 1 + t, none⟩ = false) := by
    intro t ht
    rw [hn] at ht
    rw [Nat.mul_one, Nat.add_assoc]
    exact ⟨hs (i + t) (by omega), hf (i + t) (by omega)⟩
  obtain ⟨W1, hW1⟩ : ∃ W1, W1 = w.drew.setCells b (off + i * 1) news := ⟨_, rfl⟩
  have hW1' : W1 = w.drew.setCells b (off + i) news := by rw [hW1, Nat.mul_one]
  have hcl : ∀ ty, (Builtin.clear_ #[46] ty #[.slice (some ⟨b, off + (i + (n - j)), none⟩) (n - (i + (n - j))) (cap - (i + (n - j)))]).run Tryz.prog W1 = .ok (.tuple #[]) (W1.setCells b (off + (i + (n - j))) (List.replicate (n - (i + (n - j))) (.int .i64 0))) :=
    fun ty => Lib.run_clear_slice W1 _ _ ty _ Tryz.underlying46 zero3 rfl rfl b (off + (i + (n - j))) _ _ (by omega) (fun t ht => by rw [show off + (i + (n - j)) + t = off + (i + (n - j) + t) by omega, hW1']; exact hs2 _ (by omega)) (fun t ht => by rw [show off + (i + (n - j)) + t = off + (i + (n - j) + t) by omega, hW1']; exact hf2 _ (by omega))
  have X : Hid (W1 = w.drew.setCells b (off + i) news) := hW1'
  have hW : Hid (W1 = w.drew.setCells b (off + i * 1) news) := hW1
  have hic : i ≤ cap := by omega
  have hjc : j ≤ cap := by omega
  clear hW1 hW1' hs hf hs2 hf2 hc h1 hn
  go_enter Tryz.func118, Tryz.ntmps118
  go_wp2_with fail
  go_region_law (refine step_append_room rfl (.tmp 22) (.tmp 25) 46 rfl 3 i0 1 Tryz.underlying46 hi0 hz1 b off i cap (by simp [Act.eval, Act.put]) A (n - j) (cap - j) news (by simp [Act.eval, Act.put]) s1.out hsrc.out s2.out (by omega) s3.out ?_; rw [← hW.out])
  go_wp2
  go_ret
  refine ⟨rfl, ?_⟩
  rw [← X.out, show n - (i + (n - j)) = j - i by omega]

def cutL (l : List Int) (ln i j : Nat) : List Int := l.take i ++ (l.take ln).drop j ++ List.replicate (j - i) 0 ++ l.drop ln
theorem cutL_length (l : List Int) (ln i j : Nat) (hij : i < j) (hj : j ≤ ln) (hl : ln ≤ l.length) : (cutL l ln i j).length = l.length := by
  simp only [cutL, List.length_append, List.length_take, List.length_drop, List.length_replicate]
  omega
theorem cutL_get (l : List Int) (ln i j : Nat) (hij : i < j) (hj : j ≤ ln) (hl : ln ≤ l.length) (t : Nat) :
    (cutL l ln i j)[t]? = if t < i then l[t]? else if t < i + (ln - j) then l[t - i + j]? else if t < ln then some 0 else l[t]? := by
  have e1 : (l.take i).length = i := by rw [List.length_take]; omega
  have e2 : (l.take i ++ (l.take ln).drop j).length = i + (ln - j) := by rw [List.length_append, e1, List.length_drop, List.length_take]; omega
  have e3 : (l.take i ++ (l.take ln).drop j ++ List.replicate (j - i) 0).length = ln := by rw [List.length_append, e2, List.length_replicate]; omega
  unfold cutL
  by_cases h1 : t < i
  · rw [if_pos h1, List.getElem?_append_left (by omega), List.getElem?_append_left (by omega), List.getElem?_append_left (by omega), List.getElem?_take, if_pos h1]
  · rw [if_neg h1]
    by_cases h2 : t < i + (ln - j)
    · rw [if_pos h2, List.getElem?_append_left (by omega), List.getElem?_append_left (by omega), List.getElem?_append_right (by omega), e1, List.getElem?_drop, List.getElem?_take, if_pos (by omega)]
      congr 1
      omega
    · rw [if_neg h2]
      by_cases h3 : t < ln
      · rw [if_pos h3, List.getElem?_append_left (by omega), List.getElem?_append_right (by omega), e2, List.getElem?_replicate, if_pos (by omega)]
      · rw [if_neg h3, List.getElem?_append_right (by omega), e3, List.getElem?_drop]
        congr 1
        omega

theorem delete_ok (l : List Int) (ln i j : Nat) (hij : i < j) (hj : j ≤ ln) (hl : ln ≤ l.length) :
    ACallsD Tryz.prog 118 1 [.msl 0 0 (some ln) none, I i, I j] [(0, ROW 1 (cI .i64) l 0)] (.msl 0 0 (some (ln - (j - i))) none) [(0, ROW 1 (cI .i64) (cutL l ln i j) 0)] := by
  intro F w ι vs hp
  obtain ⟨v0, v1, v2, rfl⟩ : ∃ v0 v1 v2, vs = #[v0, v1, v2] := by
    have := hp.n
    cases vs with
    | mk l => match l, this with
      | [x, y, z], _ => exact ⟨x, y, z, rfl⟩
  have h0 := hp.arg 0 v0 _ rfl rfl
  have h1 := hp.arg 1 v1 _ rfl rfl
  have h2 := hp.arg 2 v2 _ rfl rfl
  have e1 : v1 = .int .i64 i := by
    cases h1 with | d h => cases h with | v x h => rfl
  have e2 : v2 = .int .i64 j := by
    cases h2 with | d h => cases h with | v x h => rfl
  subst e1; subst e2
  obtain ⟨hb, c, ty, k1, k2, k3, k4, k5, k6, k7, k8⟩ := hp.obj 0 _ rfl
  have k4 : (ι 0).n = l.length := by rw [k4, List.length_map]
  have k5 : (ι 0).off + l.length ≤ c.size := by simpa using k5
  obtain ⟨cap, rfl, hlc, htot⟩ : ∃ cap, v0 = .slice (some ⟨(ι 0).b, (ι 0).off, none⟩) ln cap ∧ ln ≤ cap ∧ (ι 0).off + cap ≤ c.size := by
    cases h0 with
    | msl r lo len ln' cp cap hl' hle hk hn ht =>
      simp at hl'
      subst hl'
      refine ⟨cap, by simp, hle, ?_⟩
      rw [k2, k3] at ht
      simpa using ht
    | mslz r lo p ln' cp hl' hk => simp at hl'; omega
  have hcell : ∀ t x, l[t]? = some x → c[(ι 0).off + t]? = some (.int .i64 x) := fun t x hx => by
    have hlt : t < l.length := (List.getElem?_eq_some_iff.1 hx).1
    have := k8 t 0 (cI .i64 x) (.v (.int .i64 x)) c[(ι 0).off + t] (by rw [List.getElem?_map, hx]; rfl) rfl (by rw [Nat.mul_one, Nat.add_zero]; exact Array.getElem?_eq_getElem _)
    rw [Array.getElem?_eq_getElem (by omega)]
    congr 1
    generalize c[(ι 0).off + t] = v at this
    cases this with | v x h => rfl
  generalize hoff : (ι 0).off = off at *
  generalize hbb : (ι 0).b = b at *
  obtain ⟨news, hnews⟩ : ∃ news, news = ((l.take ln).drop j).map (Value.int .i64) := ⟨_, rfl⟩
  have hnl : news.length = ln - j := by rw [hnews, List.length_map, List.length_drop, List.length_take]; omega
  have hnget : ∀ t, t < ln - j → news[t]? = (l[t + j]?).map (Value.int .i64) := fun t ht => by
    rw [hnews, List.getElem?_map, List.getElem?_drop, List.getElem?_take, if_pos (by omega), Nat.add_comm j t]
  have hone : ∀ u ∈ news, u.oneCell' = true := fun u hu => by
    rw [hnews] at hu
    obtain ⟨x, _, rfl⟩ := List.mem_map.1 hu
    rfl
  have hz1 : ∀ u ∈ List.replicate (j - i) (Value.int .i64 0), u.oneCell' = true := fun u hu => by rw [List.eq_of_mem_replicate hu]; rfl
  have hd : w.drew.heap[b]? = some (.cells c ty (0, 0)) := k1
  have hW1 := setCells_setRow (P := Tryz.prog) w.drew b (off + i) ty news c hd (by rw [hnl]; omega) hone
  obtain ⟨c1, hc1⟩ : ∃ c1, c1 = (c.toList.take (off + i) ++ news ++ c.toList.drop (off + i + news.length)).toArray := ⟨_, rfl⟩
  have hg1 : ∀ k, c1[k]? = if off + i ≤ k ∧ k < off + i + news.length then news[k - (off + i)]? else c[k]? := fun k => by
    rw [hc1, List.getElem?_toArray, cut_get _ _ _ (by rw [hnl]; simp; omega)]
    simp
  have hs1 : c1.size = c.size := by
    rw [hc1]
    simp only [List.size_toArray, List.length_append, List.length_take, List.length_drop, Array.length_toList, hnl]
    omega
  rw [← hc1] at hW1
  clear hc1
  have hh1 : (w.drew.setRow b c1).heap[b]? = some (.cells c1 ty (0, 0)) := setRow_heap _ _ c _ ty _ hd
  have hW2 := setCells_setRow (P := Tryz.prog) (w.drew.setRow b c1) b (off + (i + (ln - j))) ty (List.replicate (j - i) (.int .i64 0)) c1 hh1 (by rw [hs1, List.length_replicate]; omega) hz1
  obtain ⟨c2, hc2⟩ : ∃ c2, c2 = (c1.toList.take (off + (i + (ln - j))) ++ List.replicate (j - i) (Value.int .i64 0) ++ c1.toList.drop (off + (i + (ln - j)) + (List.replicate (j - i) (Value.int .i64 0)).length)).toArray := ⟨_, rfl⟩
  have hg2 : ∀ k, c2[k]? = if off + (i + (ln - j)) ≤ k ∧ k < off + (i + (ln - j)) + (j - i) then some (.int .i64 0) else c1[k]? := fun k => by
    rw [hc2, List.getElem?_toArray, cut_get _ _ _ (by rw [List.length_replicate]; simp; omega)]
    simp only [List.length_replicate, Array.getElem?_toList]
    split
    · rw [List.getElem?_replicate, if_pos (by omega)]
    · rfl
  have hs2 : c2.size = c.size := by
    rw [hc2]
    simp only [List.size_toArray, List.length_append, List.length_take, List.length_drop, Array.length_toList, List.length_replicate]
    omega
  rw [← hc2] at hW2
  clear hc2
  have hh2 : ((w.drew.setRow b c1).setRow b c2).heap[b]? = some (.cells c2 ty (0, 0)) := setRow_heap _ _ c1 _ ty _ hh1
  have hother : ∀ k, k ≠ b → ((w.drew.setRow b c1).setRow b c2).heap[k]? = w.heap[k]? := fun k hk => by rw [heap_setRow_other _ _ _ _ hk, heap_setRow_other _ _ _ _ hk]; rfl
  have hcel : ∀ t, w.cell? ⟨b, t, none⟩ = c[t]? := fun t => by simp [World.cell?, k1]
  refine (delete_walk b off ln cap i j news w hij hj hlc hnl (fun t u hu => ?_) hone (fun t ht => ?_) (fun t ht => by simp [World.frozen?, k1]) (fun t ht => ?_) (fun t ht => ?_)).mono fun e w' he => ?_
  · have ht : t < ln - j := by rw [← hnl]; exact (List.getElem?_eq_some_iff.1 hu).1
    rw [hnget t ht] at hu
    cases hx : l[t + j]? with
    | none => rw [hx] at hu; cases hu
    | some x =>
      rw [hx] at hu
      rw [hcel, ← hu, show off + j + t = off + (t + j) by omega]
      exact hcell _ _ hx
  · rw [hcel, Array.getElem?_eq_getElem (by omega)]; rfl
  · rw [hW1]
    simp only [World.cell?, hh1]
    rw [Array.getElem?_eq_getElem (by omega)]
    rfl
  · rw [hW1]
    simp [World.frozen?, hh1]
  · obtain ⟨rfl, rfl⟩ := he
    rw [hW1, hW2]
    have hsz : ((w.drew.setRow b c1).setRow b c2).heap.size = w.heap.size := by
      have h0 : w.drew.heap.size = w.heap.size := rfl
      rw [← h0]
      simp [World.setRow]
    have hM : ∀ (l' : List Int) q o, Mut [(0, ROW 1 (cI .i64) l' 0)] ι q o ↔ q = b ∧ off ≤ o := fun l' q o => by
      constructor
      · rintro ⟨r, ob, m1, m2, m3⟩
        rw [getH_cons] at m1
        split at m1
        · rename_i e
          subst e
          cases m1
          refine ⟨m2.symm.trans hbb, ?_⟩
          simp only [Ob.from, hoff] at m3
          omega
        · cases m1
      · rintro ⟨rfl, h⟩
        exact ⟨0, _, rfl, hbb, by simp only [Ob.from, hoff]; omega⟩
    refine ⟨_, _, _, ι, rfl, ⟨rfl, rfl⟩, ?_, fun k o hk => ?_, fun k k' o o' a1 a2 _ => ?_, ⟨rfl, ⟨rfl, Nat.le_succ _⟩, rfl, by rw [hsz]; exact Nat.le_refl _, fun q o x hx hm => ?_, fun q hq hm => ?_⟩, fun q o hm => .inr ?_, fun _ _ => rfl, fun r o hr q => ?_⟩
    · have := RV.msl (w := (w.drew.setRow b c1).setRow b c2) (I := Im F [(0, ROW 1 (cI .i64) (cutL l ln i j) 0)] ι) (ι := ι) 0 0 (ln - (j - i)) (some (ln - (j - i))) none cap rfl (by omega) (fun k hk => by cases hk) (by rw [k4]; omega) (by rw [k2, k3, hoff]; omega)
      rw [hbb, hoff, Nat.zero_mul, Nat.add_zero] at this
      rw [show i + (ln - j) = ln - (j - i) by omega]
      exact this
    · rw [getH_cons] at hk
      split at hk
      · rename_i e
        subst e
        cases hk
        refine ⟨by rw [hbb, hsz]; exact hb, c2, ty, by rw [hbb]; exact hh2, k2, by rw [k3, hs2], by rw [k4, List.length_map, cutL_length _ _ _ _ hij hj hl], by rw [List.length_map, cutL_length _ _ _ _ hij hj hl, hs2, hoff]; omega, Nat.zero_le _, fun q c' hq => ?_, fun q j' c' d u hq hd hu => ?_⟩
        · rw [List.getElem?_map, Option.map_eq_some_iff] at hq
          obtain ⟨x, _, rfl⟩ := hq
          rfl
        · rw [List.getElem?_map, Option.map_eq_some_iff] at hq
          obtain ⟨x, hx, rfl⟩ := hq
          have hj' : j' = 0 := by
            have := (List.getElem?_eq_some_iff.1 hd).1
            simpa [cI] using this
          subst hj'
          cases hd
          have hc2 : c2[off + q]? = some (.int .i64 x) := by
            rw [cutL_get _ _ _ _ hij hj hl] at hx
            rw [hg2]
            by_cases q1 : q < i
            · rw [if_pos q1] at hx
              rw [if_neg (by omega), hg1, if_neg (by omega)]
              exact hcell _ _ hx
            · rw [if_neg q1] at hx
              by_cases q2 : q < i + (ln - j)
              · rw [if_pos q2] at hx
                rw [if_neg (by omega), hg1, if_pos (by omega), show off + q - (off + i) = q - i by omega, hnget _ (by omega), hx]
                rfl
              · rw [if_neg q2] at hx
                by_cases q3 : q < ln
                · rw [if_pos q3] at hx
                  cases hx
                  rw [if_pos (by omega)]
                · rw [if_neg q3] at hx
                  rw [if_neg (by omega), hg1, if_neg (by omega)]
                  exact hcell _ _ hx
          rw [hoff, Nat.mul_one, Nat.add_zero, hc2] at hu
          cases hu
          exact .v _ rfl
      · cases hk
    · rw [getH_cons] at a1 a2
      split at a1
      · split at a2
        · omega
        · cases a2
      · cases a1
    · have hm : ¬ (q = b ∧ off ≤ o) := fun h => hm ((hM l q o).2 h)
      by_cases hq : q = b
      · subst hq
        have ho : o < off := by omega
        rw [hcel] at hx
        simp only [World.cell?, hh2]
        rw [← hx]
        show c2[o]? = c[o]?
        rw [hg2, if_neg (by omega), hg1, if_neg (by omega)]
      · simp only [World.cell?, hother q hq] at hx ⊢
        exact hx
    · have hq : q ≠ b := fun h => hm off ((hM l q off).2 ⟨h, Nat.le_refl _⟩)
      exact hother q hq
    · exact (hM _ _ _).2 ((hM _ _ _).1 hm)
    · rw [getH_cons] at hr
      split at hr
      · rename_i e
        subst e
        exact hp.apartF 0 _ rfl q
      · cases hr
end Go.Ab
end
