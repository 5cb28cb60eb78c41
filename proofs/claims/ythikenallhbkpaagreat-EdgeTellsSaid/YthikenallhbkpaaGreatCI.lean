/-
  TEXTS PUT TOGETHER: ClI0, ClI.
-/
import Derived.Test.YthikenallhbkpaaGreatProg
import Derived.Lib.SliceRun
import Derived.Deep.RegionLaw
import Derived.Shelf.Spec.SlicesInsertGrow
import Derived.Test.YthikenallhbkpaaGreatLI
section
/-
  SLICES.DELETE AND SLICES.INSERT AT EDGES: what they do with cells.
-/
namespace Go.Ab
open Go.Proofs Go.RowKit Go.Lib Go.Shelf
set_option linter.unusedVariables false
set_option linter.unusedSimpArgs false

/-- an edge's zero value, as it lies -/
def zE : Value := .agg #[.int .i64 0, .int .i64 0, .bool false, .slice none 0 0, .slice none 0 0]
theorem infoE : (Tryz.prog.info? 43).map (fun i => (i.zero, i.size, i.bytes)) = some (some zE, 5, 72) := by kernel_rfl
theorem zE_size : zE.cells.size = 5 := by kernel_rfl
theorem zE_one : zE.cells.toList.all (·.oneCell') = true := by kernel_rfl
def zL (n : Nat) : List Value := (Builtin.zeroCells zE.cells n).toList
theorem zL_len (n : Nat) : (zL n).length = n * 5 := by
  unfold zL Builtin.zeroCells
  simp [zE_size]
theorem zL_one (n : Nat) : ∀ v ∈ zL n, v.oneCell' = true := fun v hv => by
  unfold zL Builtin.zeroCells at hv
  simp only [zE_size, Array.toList_map, List.mem_map] at hv
  obtain ⟨i, _, rfl⟩ := hv
  exact List.all_eq_true.1 zE_one _ (by rw [getElem!_pos zE.cells _ (by rw [zE_size]; exact Nat.mod_lt _ (by decide))]; exact Array.getElem_mem_toList _)
theorem zeroEd : ∀ w : World, (zeroValue 43).run Tryz.prog w = .ok zE w := Tryz.zeroValue43
theorem clearE (w : World) (ty : TypeId) (b o n c : Nat) (hn : 0 < n)
    (hc : ∀ j, j < n * 5 → (w.cell? ⟨b, o + j, none⟩).isSome = true) (hf : ∀ j, j < n * 5 → w.frozen? ⟨b, o + j, none⟩ = false) :
    (Builtin.clear_ #[22] ty #[.slice (some ⟨b, o, none⟩) n c]).run Tryz.prog w = .ok (.tuple #[]) (w.setCells b o (zL n)) := by
  have hst := run_storeCells_cells (P := Tryz.prog) b o (zL n) 0 w (by simpa [zL_len] using hc) (by simpa [zL_len] using hf) (zL_one n)
  simp only [Nat.add_zero] at hst
  unfold zL zE at hst ⊢
  obtain ⟨m, rfl⟩ : ∃ m, n = m + 1 := ⟨n - 1, by omega⟩
  simp [Builtin.clear_, run_underlying Tryz.underlying22, zeroEd, hst]
theorem copyE (w : World) (ty : TypeId) (b o dLen dCap : Nat) (a : Addr) (sLen sCap : Nat) (cs : List Value) (hn : cs.length = Nat.min sLen dLen * 5)
    (hsrc : ∀ j v, cs[j]? = some v → w.cell? (a.add j) = some v) (hc : ∀ j, j < cs.length → (w.cell? ⟨b, o + j, none⟩).isSome = true) (hf : ∀ j, j < cs.length → w.frozen? ⟨b, o + j, none⟩ = false) (h1 : ∀ v ∈ cs, v.oneCell' = true) :
    (Builtin.copy_ #[22, 22] ty #[.slice (some ⟨b, o, none⟩) dLen dCap, .slice (some a) sLen sCap]).run Tryz.prog w = .ok (goInt (Nat.min sLen dLen)) (w.setCells b o cs) := by
  obtain ⟨i0, hi0, hz0, hz1, hz2⟩ := info_parts infoE
  have hl := run_loadCells_list (P := Tryz.prog) w a cs hsrc
  have hst := run_storeCells_cells (P := Tryz.prog) b o cs 0 w (by simpa using hc) (by simpa using hf) h1
  simp [Builtin.copy_, run_underlying Tryz.underlying22, Builtin.lenOf, Builtin.firstCells, sizeOf, typeInfo, hi0, hz1, ← hn, hl, hst]

set_option maxHeartbeats 1600000 in
set_option maxRecDepth 1000000 in
theorem deleteE_walk (b off n cap i j : Nat) (news : List Value) (w : World) (hij : i < j) (hj : j ≤ n) (hl : n ≤ cap) (hn : news.length = (n - j) * 5)
    (hc : ∀ t u, news[t]? = some u → w.cell? ⟨b, off + j * 5 + t, none⟩ = some u) (h1 : ∀ u ∈ news, u.oneCell' = true)
    (hs : ∀ t, t < n * 5 → (w.cell? ⟨b, off + t, none⟩).isSome = true) (hf : ∀ t, t < n * 5 → w.frozen? ⟨b, off + t, none⟩ = false)
    (hs2 : ∀ t, t < n * 5 → ((w.drew.setCells b (off + i * 5) news).cell? ⟨b, off + t, none⟩).isSome = true) (hf2 : ∀ t, t < n * 5 → (w.drew.setCells b (off + i * 5) news).frozen? ⟨b, off + t, none⟩ = false) :
    Calls Tryz.prog 109 #[.slice (some ⟨b, off, none⟩) n cap, .int .i64 i, .int .i64 j] w fun e w' => e = .returned (.slice (some ⟨b, off, none⟩) (i + (n - j)) cap) ∧
      w' = (w.drew.setCells b (off + i * 5) news).setCells b (off + (i + (n - j)) * 5) (zL (j - i)) := by
  obtain ⟨i0, hi0, hz0, hz1, hz2⟩ := info_parts infoE
  obtain ⟨A, hA, hsrc⟩ : ∃ A : Addr, (if cap = j then some (⟨b, off, none⟩ : Addr) else some ⟨b, off + j * 5, none⟩) = some A ∧ Hid (∀ t u, news[t]? = some u → w.drew.cell? (A.add t) = some u) := by
    by_cases h : cap = j
    · refine ⟨⟨b, off, none⟩, by simp [h], fun t u hu => ?_⟩
      have h0 : news.length = 0 := by omega
      rw [List.length_eq_zero_iff.1 h0] at hu
      simp at hu
    · refine ⟨⟨b, off + j * 5, none⟩, by simp [h], fun t u hu => ?_⟩
      rw [Addr.add_lit]
      exact hc t u hu
  have s1 : Hid (news.length = (n - j) * 5) := hn
  have s2 : Hid (∀ u ∈ news, u.oneCell' = true) := h1
  have s3 : Hid (∀ t, t < news.length → (w.drew.cell? ⟨b, off + i * 5 + t, none⟩).isSome = true ∧ w.drew.frozen? ⟨b, off + i * 5 + t, none⟩ = false) := by
    intro t ht
    rw [hn] at ht
    rw [Nat.add_assoc]
    exact ⟨hs (i * 5 + t) (by omega), hf (i * 5 + t) (by omega)⟩
  obtain ⟨W1, hW1⟩ : ∃ W1, W1 = w.drew.setCells b (off + i * 5) news := ⟨_, rfl⟩
  have hcl : ∀ ty, (Builtin.clear_ #[22] ty #[.slice (some ⟨b, off + (i + (n - j)) * 5, none⟩) (n - (i + (n - j))) (cap - (i + (n - j)))]).run Tryz.prog W1 = .ok (.tuple #[]) (W1.setCells b (off + (i + (n - j)) * 5) (zL (n - (i + (n - j))))) :=
    fun ty => clearE W1 _ b (off + (i + (n - j)) * 5) _ _ (by omega) (fun t ht => by rw [show off + (i + (n - j)) * 5 + t = off + ((i + (n - j)) * 5 + t) by omega, hW1]; exact hs2 _ (by omega)) (fun t ht => by rw [show off + (i + (n - j)) * 5 + t = off + ((i + (n - j)) * 5 + t) by omega, hW1]; exact hf2 _ (by omega))
  have hW : Hid (W1 = w.drew.setCells b (off + i * 5) news) := hW1
  have hic : i ≤ cap := by omega
  have hjc : j ≤ cap := by omega
  clear hW1 hs hf hs2 hf2 hc h1 hn
  go_enter Tryz.func109, Tryz.ntmps109
  go_wp2_with fail
  go_region_law (refine step_append_room rfl (.tmp 22) (.tmp 25) 22 rfl 43 i0 5 Tryz.underlying22 hi0 hz1 b off i cap (by simp [Act.eval, Act.put]) A (n - j) (cap - j) news (by simp [Act.eval, Act.put]) s1.out hsrc.out s2.out (by omega) s3.out ?_; rw [← hW.out])
  go_wp2
  go_ret
  refine ⟨rfl, ?_⟩
  rw [← hW.out, show n - (i + (n - j)) = j - i by omega]

/-! ### insert -/
theorem mixedE : Tryz.prog.follows Departure.mixedOrders = true := by kernel_rfl
set_option maxHeartbeats 4000000 in
set_option maxRecDepth 1000000 in
/-- there is room, and it isn't the end: in place -/
theorem insE_shift (b off n c i vb voff vc : Nat) (cs vs : List Value) (w : World) (hi : i < n) (hn63 : n + 1 ≤ 9223372036854775807) (hroom : n + 1 ≤ c) (hvb : vb ≠ b)
    (hcl : cs.length = n * 5) (hvl : vs.length = 5)
    (hcs : ∀ j v, cs[j]? = some v → w.cell? ⟨b, off + j, none⟩ = some v) (hsp : ∀ j, j < (n + 1) * 5 → (w.cell? ⟨b, off + j, none⟩).isSome = true) (hfz : ∀ j, j < (n + 1) * 5 → w.frozen? ⟨b, off + j, none⟩ = false)
    (hvs : ∀ j v, vs[j]? = some v → w.cell? ⟨vb, voff + j, none⟩ = some v) (h1c : ∀ v ∈ cs, v.oneCell' = true) (h1v : ∀ v ∈ vs, v.oneCell' = true)
    (tA tB : TypeId) (kA kB : Nat) (hsa : w.shape? vb = some (tA, kA)) (hsb : w.shape? b = some (tB, kB)) (hkB : kB ≠ 0) (hfa : w.frozen? ⟨vb, voff, none⟩ = false) (hfe : w.frozen? ⟨vb, kA, none⟩ = false) :
    Calls Tryz.prog 110 #[.slice (some ⟨b, off, none⟩) n c, .int .i64 i, .slice (some ⟨vb, voff, none⟩) 1 vc] w fun e w' =>
      e = .returned (.slice (some ⟨b, off, none⟩) (n + 1) c) ∧ w' = (w.drew.setCells b (off + (i + 1) * 5) (cs.drop (i * 5))).setCells b (off + i * 5) vs := by
  have hz2 : ¬ ((i : Int) = (n : Int)) := by omega
  have mixed := mixedE
  have hov : ∀ lb cb, (callFunc 148 #[.slice (some ⟨vb, voff, none⟩) 1 vc, .slice (some ⟨b, off + (i + 1) * 5, none⟩) lb cb]).run Tryz.prog w = .ok (.value (.bool false)) w := fun lb cb => by
    rw [run_callFunc_extern Tryz.func148 (by kernel_rfl) (by kernel_rfl) (by kernel_rfl) (e := Extern.SlicesOverlaps.overlaps #[22, 22] #[4]) (by kernel_rfl),
      Lib.run_overlaps_apart w 22 4 43 Tryz.underlying22 5 Tryz.sizeOf43 ⟨vb, voff, none⟩ ⟨b, off + (i + 1) * 5, none⟩ 1 vc lb cb hvb tA tB kA kB hsa hsb hkB hfa hfe]
    rfl
  have hdl : (cs.drop (i * 5)).length = (n - i) * 5 := by rw [List.length_drop, hcl]; omega
  have hw1 : IntKind.i64.wrap ((i : Int) + 1) = (i : Int) + 1 := by rw [IntKind.wrap_i64]; omega
  have hb1 : (0 : Int) ≤ (i : Int) + 1 := by omega
  have hin : i ≤ n := by omega
  have htn : ((i : Int) + 1).toNat = i + 1 := by omega
  have hb2 : ¬ (c = i + 1) := by omega
  have hb3 : (i : Int) ≤ (n : Int) + 1 := by omega
  have hb4 : ¬ (c = i) := by omega
  have hcp1 : ∀ ty dc sc, (Builtin.copy_ #[22, 22] ty #[.slice (some ⟨b, off + (i + 1) * 5, none⟩) (n - i) dc, .slice (some ⟨b, off + i * 5, none⟩) (n + 1 - i) sc]).run Tryz.prog w.drew = .ok (goInt (Nat.min (n + 1 - i) (n - i))) (w.drew.setCells b (off + (i + 1) * 5) (cs.drop (i * 5))) := fun ty dc sc =>
    copyE w.drew ty b (off + (i + 1) * 5) (n - i) dc ⟨b, off + i * 5, none⟩ (n + 1 - i) sc (cs.drop (i * 5)) (by rw [hdl]; simp only [Nat.min_def]; split <;> omega)
      (fun j v hj => by rw [Addr.add_lit, Nat.add_assoc]; exact hcs (i * 5 + j) v (by rwa [List.getElem?_drop] at hj))
      (fun j hj => by rw [Nat.add_assoc]; exact hsp _ (by omega)) (fun j hj => by rw [Nat.add_assoc]; exact hfz _ (by omega)) (fun v hv => h1c v (List.mem_of_mem_drop hv))
  obtain ⟨W1, hW1⟩ : ∃ W1, W1 = w.drew.setCells b (off + (i + 1) * 5) (cs.drop (i * 5)) := ⟨_, rfl⟩
  have hsp1 : ∀ k, k < (n + 1) * 5 → (W1.cell? ⟨b, off + k, none⟩).isSome = true := fun k hk => by
    rw [hW1]
    exact isSome_setCells b _ _ _ (fun j hj => by rw [Nat.add_assoc]; exact hsp _ (by omega)) _ (hsp k hk)
  have hcp2 : ∀ (W : World), (∀ x, W.cell? x = W1.cell? x) → (∀ x, W.frozen? x = W1.frozen? x) → ∀ ty dc, (Builtin.copy_ #[22, 22] ty #[.slice (some ⟨b, off + i * 5, none⟩) (n + 1 - i) dc, .slice (some ⟨vb, voff, none⟩) 1 vc]).run Tryz.prog W = .ok (goInt (Nat.min 1 (n + 1 - i))) (W.setCells b (off + i * 5) vs) := fun W hWc hWf ty dc =>
    copyE W ty b (off + i * 5) (n + 1 - i) dc ⟨vb, voff, none⟩ 1 vc vs (by rw [hvl]; simp only [Nat.min_def]; split <;> omega)
      (fun j v hj => by
        rw [Addr.add_lit, hWc, hW1, World.cell?_setCells_out b _ _ _ _ (fun h _ => absurd h hvb)]
        exact hvs j v hj)
      (fun j hj => by rw [hWc, Nat.add_assoc]; exact hsp1 _ (by omega)) (fun j hj => by rw [hWf, hW1, World.frozen?_setCells, Nat.add_assoc]; exact hfz _ (by omega)) h1v
  rw [← hW1] at hcp1
  go_enter Tryz.func110, Tryz.ntmps110
  go_wp2_with (simp only [hov])
  go_region_law_o (refine step_copy_runI rfl _ _ 22 22 rfl _ _ (by simp [Act.eval, Act.put]) (by simp [Act.eval, Act.put]) (hcp1 _ _ _) ?_)
  go_wp2_with (at_builtin; refine wpList_copy_runI _ rfl _ _ 22 22 rfl _ _ rfl rfl (hcp2 _ (fun _ => rfl) (fun _ => rfl) _ _) ?_)
  go_ret
  first | exact ⟨rfl, rfl⟩ | exact ⟨rfl, by rw [hW1]⟩

set_option maxHeartbeats 4000000 in
set_option maxRecDepth 1000000 in
/-- at the end, there is room -/
theorem insE_end (b off n c vb voff vc : Nat) (vs : List Value) (w : World) (hn63 : n + 1 ≤ 9223372036854775807) (hroom : n + 1 ≤ c)
    (hvl : vs.length = 5) (hsp : ∀ j, j < 5 → (w.cell? ⟨b, off + n * 5 + j, none⟩).isSome = true) (hfz : ∀ j, j < 5 → w.frozen? ⟨b, off + n * 5 + j, none⟩ = false)
    (hvs : ∀ j v, vs[j]? = some v → w.cell? ⟨vb, voff + j, none⟩ = some v) (h1v : ∀ v ∈ vs, v.oneCell' = true) :
    Calls Tryz.prog 110 #[.slice (some ⟨b, off, none⟩) n c, .int .i64 n, .slice (some ⟨vb, voff, none⟩) 1 vc] w fun e w' =>
      e = .returned (.slice (some ⟨b, off, none⟩) (n + 1) c) ∧ w' = w.setCells b (off + n * 5) vs := by
  have mixed := mixedE
  obtain ⟨i0, hi0, hz0, hzs, hzb⟩ := info_parts infoE
  have hsrc : Src Tryz.prog i0.size 22 (.slice (some ⟨vb, voff, none⟩) 1 vc) 1 vs w := by
    rw [hzs]
    exact Src.ofSlice w Tryz.underlying22 ⟨vb, voff, none⟩ 1 vc vs (by omega) (fun j u hj => by rw [Addr.add_lit]; exact hvs j u hj) h1v
  have hrun : ∀ ty, (Builtin.append_ #[22, 22] ty #[.slice (some ⟨b, off, none⟩) n c, .slice (some ⟨vb, voff, none⟩) 1 vc]).run Tryz.prog w = .ok (.slice (some ⟨b, off, none⟩) (n + 1) c) (w.setCells b (off + n * 5) vs) := fun ty => by
    have := run_append_room_src (w := w) 22 22 ty 43 i0 Tryz.underlying22 hi0 b off n c _ 1 vs hsrc hroom (by rw [hvl, hzs]; exact hsp) (by rw [hvl, hzs]; exact hfz)
    rw [hzs] at this
    exact this
  go_enter Tryz.func110, Tryz.ntmps110
  go_wp2_with (at_builtin; refine Lib.wpList_append_run _ rfl _ _ _ _ rfl _ _ rfl rfl _ _ (hrun _) ?_)
  go_ret
  exact ⟨rfl, rfl⟩

set_option maxHeartbeats 4000000 in
set_option maxRecDepth 1000000 in
/-- at the end, there is no room -/
theorem insE_end_grow (base : Option Addr) (n c vb voff vc : Nat) (cs vs : List Value) (w : World) (hnc : n ≤ c) (hroom : c < n + 1) (hbig : (n + 1) * 72 ≤ 140737488355328)
    (hcl : cs.length = n * 5) (hvl : vs.length = 5) (hnil : base = none → n = 0)
    (hcs : ∀ a, base = some a → ∀ j v, cs[j]? = some v → w.cell? (a.add j) = some v)
    (hvs : ∀ j v, vs[j]? = some v → w.cell? ⟨vb, voff + j, none⟩ = some v) (h1v : ∀ v ∈ vs, v.oneCell' = true) :
    Calls Tryz.prog 110 #[.slice base n c, .int .i64 n, .slice (some ⟨vb, voff, none⟩) 1 vc] w fun e w' =>
      e = .returned (.slice (some ⟨w.heap.size, 0, none⟩) (n + 1) (grownCap w (n + 1) c 43)) ∧
      w' = w.drew.alloc (.cells ((cs ++ vs).toArray ++ Builtin.zeroCells zE.cells (grownCap w (n + 1) c 43 - (n + 1))) 43) := by
  have mixed := mixedE
  obtain ⟨i0, hi0, hz0, hzs, hzb⟩ := info_parts infoE
  have hsrc : Src Tryz.prog i0.size 22 (.slice (some ⟨vb, voff, none⟩) 1 vc) 1 vs w := by
    rw [hzs]
    exact Src.ofSlice w Tryz.underlying22 ⟨vb, voff, none⟩ 1 vc vs (by omega) (fun j u hj => by rw [Addr.add_lit]; exact hvs j u hj) h1v
  have hold : (Builtin.firstCells i0.size n (.slice base n c)).run Tryz.prog w.drew = .ok cs.toArray w.drew := by
    rw [hzs]
    cases base with
    | none =>
      have h0 := hnil rfl
      subst h0
      rw [List.length_eq_zero_iff.1 hcl]
      exact run_firstCells_none w.drew 5 0 0 c
    | some a => exact run_firstCells_some w.drew 5 n a n c cs (by omega) (fun j v hj => hcs a rfl j v hj)
  have hrun : ∀ ty, (Builtin.append_ #[22, 22] ty #[.slice base n c, .slice (some ⟨vb, voff, none⟩) 1 vc]).run Tryz.prog w = .ok (.slice (some ⟨w.heap.size, 0, none⟩) (n + 1) (grownCap w (n + 1) c 43)) (w.drew.alloc (.cells ((cs ++ vs).toArray ++ Builtin.zeroCells zE.cells (grownCap w (n + 1) c 43 - (n + 1))) 43)) := fun ty =>
    run_append_grow_src w 22 22 ty 43 i0 _ Tryz.underlying22 hi0 hz0 base n c cs hold _ 1 vs hsrc hroom (by omega) (by rw [hzb]; exact growslice_fits hroom hbig)
  obtain ⟨R, hR⟩ : ∃ R : Obj, R = .cells ((cs ++ vs).toArray ++ Builtin.zeroCells zE.cells (grownCap w (n + 1) c 43 - (n + 1))) 43 := ⟨_, rfl⟩
  rw [← hR] at hrun ⊢
  clear hR
  go_enter Tryz.func110, Tryz.ntmps110
  cases base with
  | none =>
    have h0 := hnil rfl
    subst h0
    go_wp2_with (at_builtin; refine Lib.wpList_append_run _ rfl _ _ _ _ rfl _ _ rfl rfl _ _ (hrun _) ?_)
    go_ret
    exact ⟨rfl, rfl⟩
  | some a =>
    obtain ⟨ab, ao, asp⟩ := a
    go_wp2_with (at_builtin; refine Lib.wpList_append_run _ rfl _ _ _ _ rfl _ _ rfl rfl _ _ (hrun _) ?_)
    all_goals (go_ret; exact ⟨rfl, rfl⟩)

set_option maxHeartbeats 4000000 in
set_option maxRecDepth 1000000 in
/-- not at the end, no room: a new row -/
theorem insE_grow (b off n c i vb voff vc : Nat) (cs vs : List Value) (w : World) (hi : i < n) (hnc : n ≤ c) (hroom : c < n + 1) (hbig : (n + 1) * 72 ≤ 140737488355328)
    (hcl : cs.length = n * 5) (hvl : vs.length = 5)
    (hcs : ∀ j v, cs[j]? = some v → w.cell? ⟨b, off + j, none⟩ = some v)
    (hvs : ∀ j v, vs[j]? = some v → w.cell? ⟨vb, voff + j, none⟩ = some v) (h1c : ∀ v ∈ cs, v.oneCell' = true) (h1v : ∀ v ∈ vs, v.oneCell' = true) :
    Calls Tryz.prog 110 #[.slice (some ⟨b, off, none⟩) n c, .int .i64 i, .slice (some ⟨vb, voff, none⟩) 1 vc] w fun e w' =>
      e = .returned (.slice (some ⟨w.heap.size, 0, none⟩) (n + 1) (grownCap w (n + 1) c 43)) ∧
      w' = (((w.alloc (.cells ((cs.take (i * 5)).toArray ++ Builtin.zeroCells zE.cells (n + 1 - i) ++ Builtin.zeroCells zE.cells (grownCap w (n + 1) c 43 - (n + 1))) 43)).drew.setCells w.heap.size (i * 5) vs).drew).setCells w.heap.size ((i + 1) * 5) (cs.drop (i * 5)) := by
  have mixed := mixedE
  obtain ⟨i0, hi0, hz0, hzs, hzb⟩ := info_parts infoE
  have hz2 : ¬ ((i : Int) = (n : Int)) := by omega
  have hz3 : (c : Int) < (n : Int) + 1 := by omega
  have hbw : b < w.heap.size := block_lt_of_cell (hcs 0 _ (List.getElem?_eq_getElem (by omega)))
  have hvw : vb < w.heap.size := block_lt_of_cell (hvs 0 _ (List.getElem?_eq_getElem (by omega)))
  have hkk : (n : Int) + 1 - (i : Int) = ((n + 1 - i : Nat) : Int) := by omega
  have hik : i + (n + 1 - i) = n + 1 := by omega
  have hold : (Builtin.firstCells i0.size i (.slice (some ⟨b, off, none⟩) i c)).run Tryz.prog w.drew = .ok (cs.take (i * 5)).toArray w.drew := by
    rw [hzs]
    exact run_firstCells_some w.drew 5 i ⟨b, off, none⟩ i c (cs.take (i * 5)) (by rw [List.length_take]; omega) (fun j v hj => by
      rw [Addr.add_lit]
      rw [List.getElem?_take] at hj
      split at hj
      · exact hcs j v hj
      · cases hj)
  have hrz : ∀ ty, (Builtin.append_ #[22, 3] ty #[.slice (some ⟨b, off, none⟩) i c, .int .i64 ((n : Int) + 1 - (i : Int))]).run Tryz.prog w =
      .ok (.slice (some ⟨w.heap.size, 0, none⟩) (n + 1) (grownCap w (n + 1) c 43)) (w.drew.alloc (.cells ((cs.take (i * 5)).toArray ++ Builtin.zeroCells zE.cells (n + 1 - i) ++ Builtin.zeroCells zE.cells (grownCap w (n + 1) c 43 - (n + 1))) 43)) := fun ty => by
    have h := Lib.run_append_grow_zeros w 22 3 ty 43 i0 _ .i64 .i64 Tryz.underlying22 Tryz.underlying3 hi0 hz0 (some ⟨b, off, none⟩) i c (cs.take (i * 5)) hold (n + 1 - i) (by omega) (by omega) (by omega) (by omega) (by rw [hzb]; omega) (by rw [hzb, hik]; exact growslice_fits hroom hbig)
    rw [hik] at h
    rw [hkk]
    exact h
  obtain ⟨G, hG⟩ : ∃ G, G = grownCap w (n + 1) c 43 := ⟨_, rfl⟩
  obtain ⟨ROW, hROW⟩ : ∃ ROW : Array Value, ROW = (cs.take (i * 5)).toArray ++ Builtin.zeroCells zE.cells (n + 1 - i) ++ Builtin.zeroCells zE.cells (G - (n + 1)) := ⟨_, rfl⟩
  rw [← hG] at hrz ⊢
  rw [← hROW] at hrz ⊢
  have hRl : (n + 1) * 5 ≤ ROW.size := by
    rw [hROW]
    have e1 : ∀ k, (Builtin.zeroCells zE.cells k).size = k * 5 := fun k => by have := zL_len k; unfold zL at this; simpa using this
    rw [Array.size_append, Array.size_append, e1, e1]
    simp
    omega
  obtain ⟨W1, hW1⟩ : ∃ W1, W1 = w.drew.alloc (.cells ROW 43) := ⟨_, rfl⟩
  rw [← hW1] at hrz
  have hN : ∀ j, j < (n + 1) * 5 → (W1.cell? ⟨w.heap.size, j, none⟩).isSome = true := fun j hj => by
    rw [hW1, World.cell?_alloc_at (w := w.drew) ROW _ w.heap.size j rfl, Array.getElem?_eq_getElem (by omega)]; rfl
  have hNf : ∀ j, W1.frozen? ⟨w.heap.size, j, none⟩ = false := fun j => by rw [hW1]; exact World.frozen?_alloc_at (w := w.drew) ROW _ w.heap.size j rfl
  have hOb : ∀ j v, w.cell? ⟨b, j, none⟩ = some v → W1.cell? ⟨b, j, none⟩ = some v := fun j v h => by rw [hW1, World.cell?_alloc_past (w := w.drew) _ b j hbw]; exact h
  have hOv : ∀ j v, w.cell? ⟨vb, j, none⟩ = some v → W1.cell? ⟨vb, j, none⟩ = some v := fun j v h => by rw [hW1, World.cell?_alloc_past (w := w.drew) _ vb j hvw]; exact h
  have hcpA : ∀ (W : World), (∀ x, W.cell? x = W1.cell? x) → (∀ x, W.frozen? x = W1.frozen? x) → ∀ ty dc, (Builtin.copy_ #[22, 22] ty #[.slice (some ⟨w.heap.size, i * 5, none⟩) (n + 1 - i) dc, .slice (some ⟨vb, voff, none⟩) 1 vc]).run Tryz.prog W = .ok (goInt (Nat.min 1 (n + 1 - i))) (W.setCells w.heap.size (i * 5) vs) := fun W hWc hWf ty dc =>
    copyE W ty w.heap.size (i * 5) (n + 1 - i) dc ⟨vb, voff, none⟩ 1 vc vs (by rw [hvl]; simp only [Nat.min_def]; split <;> omega)
      (fun j v hj => by rw [Addr.add_lit, hWc]; exact hOv _ v (hvs j v hj))
      (fun j hj => by rw [hWc]; exact hN _ (by omega)) (fun j hj => by rw [hWf]; exact hNf _) h1v
  have hGn : n + 1 ≤ G := by rw [hG]; exact grownCap_ge w _ _ _
  have hG63 : G ≤ 9223372036854775807 := by
    have := grownCap_le_maxLen w (n + 1) c 43 (by unfold maxLen; omega)
    rw [← hG] at this
    unfold maxLen at this
    omega
  have hGi : ¬ (G = i) := by omega
  have hGim : ¬ (G = i + 1) := by omega
  have hci : ¬ (c = i) := by omega
  have hbN : b ≠ w.heap.size := by omega
  have hdl : (cs.drop (i * 5)).length = (n - i) * 5 := by rw [List.length_drop, hcl]; omega
  have hcpB : ∀ (W : World), (∀ x, W.cell? x = (W1.setCells w.heap.size (i * 5) vs).cell? x) → (∀ x, W.frozen? x = (W1.setCells w.heap.size (i * 5) vs).frozen? x) → ∀ ty dc sc, (Builtin.copy_ #[22, 22] ty #[.slice (some ⟨w.heap.size, (i + 1) * 5, none⟩) (n - i) dc, .slice (some ⟨b, off + i * 5, none⟩) (n - i) sc]).run Tryz.prog W = .ok (goInt (Nat.min (n - i) (n - i))) (W.setCells w.heap.size ((i + 1) * 5) (cs.drop (i * 5))) := fun W hWc hWf ty dc sc =>
    copyE W ty w.heap.size ((i + 1) * 5) (n - i) dc ⟨b, off + i * 5, none⟩ (n - i) sc (cs.drop (i * 5)) (by rw [hdl]; simp only [Nat.min_def]; split <;> omega)
      (fun j v hj => by
        rw [Addr.add_lit, hWc, World.cell?_setCells_out _ _ _ _ _ (fun h _ => absurd h hbN), Nat.add_assoc]
        exact hOb _ v (hcs (i * 5 + j) v (by rwa [List.getElem?_drop] at hj)))
      (fun j hj => by rw [hWc]; exact isSome_setCells _ _ _ _ (fun t ht => hN _ (by omega)) _ (hN _ (by omega)))
      (fun j hj => by rw [hWf, World.frozen?_setCells]; exact hNf _) (fun v hv => h1c v (List.mem_of_mem_drop hv))
  subst hW1
  have hE1 : ∀ x, ((w.alloc (.cells ROW 43)).drew).cell? x = (w.drew.alloc (.cells ROW 43)).cell? x := fun x => rfl
  have hE2 : ∀ x, ((w.alloc (.cells ROW 43)).drew).frozen? x = (w.drew.alloc (.cells ROW 43)).frozen? x := fun x => rfl
  have hF1 : ∀ x, (((w.alloc (.cells ROW 43)).drew.setCells w.heap.size (i * 5) vs).drew).cell? x = ((w.drew.alloc (.cells ROW 43)).setCells w.heap.size (i * 5) vs).cell? x := fun x => rfl
  have hF2 : ∀ x, (((w.alloc (.cells ROW 43)).drew.setCells w.heap.size (i * 5) vs).drew).frozen? x = ((w.drew.alloc (.cells ROW 43)).setCells w.heap.size (i * 5) vs).frozen? x := fun x => rfl
  have hw1 : IntKind.i64.wrap ((i : Int) + 1) = (i : Int) + 1 := by rw [IntKind.wrap_i64]; omega
  have hb1 : (0 : Int) ≤ (i : Int) + 1 := by omega
  have hin : i ≤ n := by omega
  have htn : ((i : Int) + 1).toNat = i + 1 := by omega
  have hb3 : (i : Int) ≤ (n : Int) := by omega
  clear hkk hik hold hROW hG hRl
  go_enter Tryz.func110, Tryz.ntmps110
  go_wp2_with (first
    | (at_builtin; refine Lib.wpList_append_run _ rfl _ _ _ _ rfl _ _ rfl rfl _ _ (hrz _) ?_)
    | (at_builtin; refine wpList_copy_runI _ rfl _ _ 22 22 rfl _ _ rfl rfl (hcpA _ hE1 hE2 _ _) ?_)
    | (at_builtin; refine wpList_copy_runI _ rfl _ _ 22 22 rfl _ _ rfl rfl (hcpB _ (fun _ => rfl) (fun _ => rfl) _ _ _) ?_))
  go_region_law_o (refine step_copy_runI rfl _ _ 22 22 rfl (.slice (some ⟨w.heap.size, (i + 1) * 5, none⟩) (n - i) (G - (i + 1))) (.slice (some ⟨b, off + i * 5, none⟩) (n - i) (c - i)) (by simp [Act.eval, Act.put]) (by simp [Act.eval, Act.put]) (hcpB _ hF1 hF2 3 (G - (i + 1)) (c - i)) ?_)
  go_wp2
  go_ret
  exact ⟨rfl, rfl⟩
end Go.Ab
end

section
/-
  SLICES.DELETE AND SLICES.INSERT AT EDGES, on a row that is handed over whole.
-/
namespace Go.Ab
open Go.Proofs Go.Proofs.YthikenallhbkpaaGreat Go.RowKit Go.Lib
set_option linter.unusedVariables false
set_option linter.unusedSimpArgs false

theorem setCells_row {P : Program} (w : World) (b o : Nat) (ty : TypeId) (vs : List Value) (cur : Array Value) (hg : w.heap[b]? = some (.cells cur ty (0, 0))) (hle : o + vs.length ≤ cur.size) (h1 : ∀ u ∈ vs, u.oneCell' = true) :
    w.setCells b o vs = w.setRow b (cur.toList.take o ++ vs ++ cur.toList.drop (o + vs.length)).toArray := by
  have e1 := run_storeCells_at P b o ty vs 0 cur w hg (by simpa using hle) h1
  have hs : ∀ j, j < vs.length → cur[o + j]? ≠ none := fun j hj => by simp; omega
  have e2 := run_storeCells_cells (P := P) b o vs 0 w (fun j hj => by
    simp only [World.cell?, hg]
    simp
    omega) (fun j hj => by simp [World.frozen?, hg]) h1
  rw [e1] at e2
  simp only [Nat.add_zero, Result.ok.injEq, true_and] at e2
  exact e2.symm

section
variable {T : Type} {c : T → List D}
theorem row_arg {F : Nat → Nat → Prop} {w : World} {ι : Nat → Loc} {H : Heap} {args : List A} {vs : Array Value} (hp : Pre F w ι H args vs) {r : Nat} {l : List T} (hk : ∀ x, (c x).length = 5) (one : ∀ x, (c x).all D.one = true)
    (hg : getH H r = ROW 5 c l 0) {I : Nat → Nat → Prop} {v : Value} {ln cp : Option Nat} (hln : ln.getD l.length = l.length) (hv : RV w I ι v (.msl r 0 ln cp)) :
    ∃ (a : Option Addr) (cap : Nat) (C : Array Value) (ty : TypeId), v = .slice a l.length cap ∧ (ι r).b < w.heap.size ∧ w.heap[(ι r).b]? = some (.cells C ty (0, 0)) ∧ (ι r).off + cap * 5 ≤ C.size ∧ l.length ≤ cap ∧ (a = some ⟨(ι r).b, (ι r).off, none⟩ ∨ (l = [] ∧ cap = 0)) ∧
      (∀ q j x d u, l[q]? = some x → (c x)[j]? = some d → C[(ι r).off + q * 5 + j]? = some u → RD w (Im F H ι) u d) ∧ ∀ t, t < l.length * 5 → ∃ u, C[(ι r).off + t]? = some u ∧ u.oneCell' = true := by
  obtain ⟨hb, C, ty, k1, k2, k3, k4, k5, k6, k7, k8⟩ := hp.obj r _ hg
  have k4 : (ι r).n = l.length := by rw [k4, List.length_map]
  have k5 : (ι r).off + l.length * 5 ≤ C.size := by simpa using k5
  have hel : ∀ q j x d u, l[q]? = some x → (c x)[j]? = some d → C[(ι r).off + q * 5 + j]? = some u → RD w (Im F H ι) u d := fun q j x d u hx hd hu => k8 q j (c x) d u (by rw [List.getElem?_map, hx]; rfl) hd hu
  have hone : ∀ t, t < l.length * 5 → ∃ u, C[(ι r).off + t]? = some u ∧ u.oneCell' = true := fun t ht => by
    refine ⟨C[(ι r).off + t], Array.getElem?_eq_getElem (by omega), ?_⟩
    have hq : t / 5 < l.length := by omega
    have hj : t % 5 < (c l[t / 5]).length := by rw [hk]; omega
    have h := hel (t / 5) (t % 5) l[t / 5] _ C[(ι r).off + t] (List.getElem?_eq_getElem hq) (List.getElem?_eq_getElem hj) (by rw [show (ι r).off + t / 5 * 5 + t % 5 = (ι r).off + t by omega]; exact Array.getElem?_eq_getElem _)
    have h1 : (A.d (c l[t / 5])[t % 5]).one = true := by
      have := List.all_eq_true.1 (one l[t / 5]) _ (List.getElem_mem hj)
      generalize (c l[t / 5])[t % 5] = y at this ⊢
      cases y <;> first | rfl | cases this
    exact RV.one (ι := ι) (.d h) h1
  cases hv with
  | msl r lo len ln cp cap hl' hle hk hn ht =>
    have : len = l.length := by rw [hl', Nat.sub_zero, k4]; exact hln
    subst this
    refine ⟨_, cap, C, ty, rfl, hb, k1, ?_, hle, .inl (by simp), hel, hone⟩
    rw [k2, k3] at ht
    simpa using ht
  | mslz r lo p ln cp hl' hk =>
    have : l.length = 0 := by rw [Nat.sub_zero, k4] at hl'; rw [← hln]; exact hl'
    exact ⟨p, 0, C, ty, by rw [this], hb, k1, by omega, by omega, .inr ⟨List.length_eq_zero_iff.1 this, rfl⟩, hel, hone⟩

theorem take_drop_get {α : Type} (a b : List α) (k : Nat) : (a ++ b)[k]? = if k < a.length then a[k]? else b[k - a.length]? := by
  split
  · rename_i h; rw [List.getElem?_append_left h]
  · rename_i h; rw [List.getElem?_append_right (by omega)]

theorem deleteE_ok (hk : ∀ x, (c x).length = 5) (one : ∀ x, (c x).all D.one = true) (l : List T) (i j : Nat) (hij : i < j) (hj : j ≤ l.length) :
    ACallsD Tryz.prog 109 1 [.msl 0 0 none none, I i, I j] [(0, ROW 5 c l 0)] (.msl 1 0 none none) [(1, ROW 5 c (l.take i ++ l.drop j) 0)] := by
  intro F w ι vs hp
  obtain ⟨v0, v1, v2, rfl⟩ : ∃ v0 v1 v2, vs = #[v0, v1, v2] := by
    have := hp.n
    cases vs with
    | mk vl => match vl, this with
      | [x, y, z], _ => exact ⟨x, y, z, rfl⟩
  have h0 := hp.arg 0 v0 _ rfl rfl
  have h1 := hp.arg 1 v1 _ rfl rfl
  have h2 := hp.arg 2 v2 _ rfl rfl
  have e1 : v1 = .int .i64 i := by
    cases h1 with | d h => cases h with | v x h => rfl
  have e2 : v2 = .int .i64 j := by
    cases h2 with | d h => cases h with | v x h => rfl
  subst e1; subst e2
  obtain ⟨a, cap, C, ty, rfl, hb, k1, ktot, hle, ha, hel, hone⟩ := row_arg hp hk one rfl rfl h0
  have ha : a = some ⟨(ι 0).b, (ι 0).off, none⟩ := by
    rcases ha with h | ⟨h, _⟩
    · exact h
    · rw [h] at hj; simp at hj; omega
  subst ha
  have hMut : ∀ o, (ι 0).off ≤ o → Mut [(0, ROW 5 c l 0)] ι (ι 0).b o := fun o ho => ⟨0, _, rfl, rfl, by simp only [Ob.from]; omega⟩
  have hgo := @row_post T c 5 F w ι _ _ _ hp 1 hk (l.take i ++ l.drop j)
  generalize hoff : (ι 0).off = off at *
  generalize hbb : (ι 0).b = b at *
  have hcel : ∀ t, w.cell? ⟨b, t, none⟩ = C[t]? := fun t => by simp [World.cell?, k1]
  have hCl : C.toList.length = C.size := Array.length_toList
  obtain ⟨news, hnews⟩ : ∃ news, news = (C.toList.drop (off + j * 5)).take ((l.length - j) * 5) := ⟨_, rfl⟩
  have hnl : news.length = (l.length - j) * 5 := by rw [hnews, List.length_take, List.length_drop, hCl, Nat.min_eq_left]; omega
  have hng : ∀ t, t < (l.length - j) * 5 → news[t]? = C[off + (j * 5 + t)]? := fun t ht => by
    rw [hnews, List.getElem?_take, if_pos ht, List.getElem?_drop, Array.getElem?_toList, Nat.add_assoc]
  have hn1 : ∀ u ∈ news, u.oneCell' = true := fun u hu => by
    obtain ⟨t, ht, rfl⟩ := List.getElem_of_mem hu
    obtain ⟨x, hx, h1⟩ := hone (j * 5 + t) (by omega)
    have := hng t (by omega)
    rw [hx, List.getElem?_eq_getElem ht] at this
    cases this
    exact h1
  have hd : w.drew.heap[b]? = some (.cells C ty (0, 0)) := k1
  have hW1 := setCells_row (P := Tryz.prog) w.drew b (off + i * 5) ty news C hd (by rw [hnl]; omega) hn1
  obtain ⟨C1, hC1⟩ : ∃ C1, C1 = (C.toList.take (off + i * 5) ++ news ++ C.toList.drop (off + i * 5 + news.length)).toArray := ⟨_, rfl⟩
  have hg1 : ∀ k, C1[k]? = if off + i * 5 ≤ k ∧ k < off + i * 5 + news.length then news[k - (off + i * 5)]? else C[k]? := fun k => by
    rw [hC1, List.getElem?_toArray, cut_get _ _ _ (by rw [hnl, hCl]; omega)]
    simp only [Array.getElem?_toList]
  have hs1 : C1.size = C.size := by
    rw [hC1]
    simp only [List.size_toArray, List.length_append, List.length_take, List.length_drop, Array.length_toList, hnl]
    omega
  rw [← hC1] at hW1
  clear hC1
  have hh1 : (w.drew.setRow b C1).heap[b]? = some (.cells C1 ty (0, 0)) := setRow_heap _ _ C _ ty _ hd
  have hW2 := setCells_row (P := Tryz.prog) (w.drew.setRow b C1) b (off + (i + (l.length - j)) * 5) ty (zL (j - i)) C1 hh1 (by rw [hs1, zL_len]; omega) (zL_one _)
  obtain ⟨C2, hC2⟩ : ∃ C2, C2 = (C1.toList.take (off + (i + (l.length - j)) * 5) ++ zL (j - i) ++ C1.toList.drop (off + (i + (l.length - j)) * 5 + (zL (j - i)).length)).toArray := ⟨_, rfl⟩
  have hg2 : ∀ k, k < off + (i + (l.length - j)) * 5 → C2[k]? = C1[k]? := fun k hk' => by
    rw [hC2, List.getElem?_toArray, cut_get _ _ _ (by rw [zL_len, show C1.toList.length = C1.size from Array.length_toList, hs1]; omega), if_neg (by omega), Array.getElem?_toList]
  have hs2 : C2.size = C.size := by
    rw [hC2]
    simp only [List.size_toArray, List.length_append, List.length_take, List.length_drop, Array.length_toList, zL_len]
    omega
  rw [← hC2] at hW2
  clear hC2
  have hh2 : ((w.drew.setRow b C1).setRow b C2).heap[b]? = some (.cells C2 ty (0, 0)) := setRow_heap _ _ C1 _ ty _ hh1
  have hother : ∀ k, k ≠ b → ((w.drew.setRow b C1).setRow b C2).heap[k]? = w.heap[k]? := fun k hk' => by rw [heap_setRow_other _ _ _ _ hk', heap_setRow_other _ _ _ _ hk']; rfl
  refine (deleteE_walk b off l.length cap i j news w hij hj hle hnl (fun t u hu => ?_) hn1 (fun t ht => ?_) (fun t ht => by simp [World.frozen?, k1]) (fun t ht => ?_) (fun t ht => ?_)).mono fun e w' he => ?_
  · have ht : t < (l.length - j) * 5 := by rw [← hnl]; exact (List.getElem?_eq_some_iff.1 hu).1
    rw [hcel, ← hu, hng t ht, Nat.add_assoc]
  · rw [hcel, Array.getElem?_eq_getElem (by omega)]; rfl
  · rw [hW1]
    simp only [World.cell?, hh1]
    rw [Array.getElem?_eq_getElem (by omega)]
    rfl
  · rw [hW1]
    simp [World.frozen?, hh1]
  · obtain ⟨rfl, rfl⟩ := he
    rw [hW1, hW2]
    have hsz : ((w.drew.setRow b C1).setRow b C2).heap.size = w.heap.size := by
      have h0 : w.drew.heap.size = w.heap.size := rfl
      rw [← h0]
      simp [World.setRow]
    refine hgo (evo_wr k1 hMut rfl ⟨rfl, Nat.le_succ _⟩ rfl hsz hh2 (fun o ho => ?_) hother) hh2 ?_ (by omega) (by rw [hs2]; omega) (.inr ⟨0, _, rfl, hbb, ?_⟩) (fun q t x d u hx hd hu => ?_)
    · rw [hg2 o (by omega), hg1, if_neg (by omega)]
    · rw [List.length_append, List.length_take, List.length_drop]; omega
    · simp only [Ob.from]; omega
    · have ht5 : t < 5 := by rw [← hk x]; exact (List.getElem?_eq_some_iff.1 hd).1
      have hql : q < i + (l.length - j) := by
        have := (List.getElem?_eq_some_iff.1 hx).1
        rw [List.length_append, List.length_take, List.length_drop] at this
        omega
      rw [hg2 _ (by omega), hg1] at hu
      rw [take_drop_get, List.length_take, Nat.min_eq_left (by omega)] at hx
      by_cases hqi : q < i
      · rw [if_pos hqi, List.getElem?_take, if_pos hqi] at hx
        rw [if_neg (by omega)] at hu
        exact hel q t x d u hx hd hu
      · rw [if_neg hqi, List.getElem?_drop] at hx
        rw [if_pos (by rw [hnl]; omega), hng _ (by omega)] at hu
        exact hel (j + (q - i)) t x d u hx hd (by rw [← hu]; congr 1; omega)

theorem setCells_is {P : Program} {W : World} {b o : Nat} {ty : TypeId} {vs : List Value} {C : Array Value} (hg : W.heap[b]? = some (.cells C ty (0, 0))) (hle : o + vs.length ≤ C.size) (h1 : ∀ u ∈ vs, u.oneCell' = true) :
    ∃ C' : Array Value, (W.setCells b o vs).heap[b]? = some (.cells C' ty (0, 0)) ∧ C'.size = C.size ∧ (∀ k, C'[k]? = if o ≤ k ∧ k < o + vs.length then vs[k - o]? else C[k]?) ∧
      (∀ q, q ≠ b → (W.setCells b o vs).heap[q]? = W.heap[q]?) ∧ (W.setCells b o vs).heap.size = W.heap.size ∧ (W.setCells b o vs).os = W.os ∧ (W.setCells b o vs).tape = W.tape ∧ (W.setCells b o vs).drawn = W.drawn ∧ (W.setCells b o vs).output = W.output := by
  have hCl : C.toList.length = C.size := Array.length_toList
  have hW := setCells_row (P := P) W b o ty vs C hg hle h1
  rw [hW]
  refine ⟨_, setRow_heap _ _ C _ ty _ hg, ?_, fun k => ?_, fun q hq => heap_setRow_other _ _ _ _ hq, by simp [World.setRow], rfl, rfl, rfl, rfl⟩
  · simp only [List.size_toArray, List.length_append, List.length_take, List.length_drop, hCl]
    omega
  · rw [List.getElem?_toArray, cut_get _ _ _ (by rw [hCl]; omega)]
    simp only [Array.getElem?_toList]
theorem insertE_ok (hk : ∀ x, (c x).length = 5) (one : ∀ x, (c x).all D.one = true) (l : List T) (i : Nat) (e : T) (hi : i ≤ l.length) (hn : l.length ≤ 1000000000) (ln cp : Option Nat) (hln : ln.getD 1 = 1) :
    ACallsD Tryz.prog 110 2 [.msl 0 0 none none, I i, .msl 1 0 ln cp] [(0, ROW 5 c l 0), (1, ROW 5 c [e] 0)] (.msl 2 0 none none) [(2, ROW 5 c (l.take i ++ e :: l.drop i) 0)] := by
  intro F w ι vs hp
  obtain ⟨v0, v1, v2, rfl⟩ : ∃ v0 v1 v2, vs = #[v0, v1, v2] := by
    have := hp.n
    cases vs with
    | mk vl => match vl, this with
      | [x, y, z], _ => exact ⟨x, y, z, rfl⟩
  have h0 := hp.arg 0 v0 _ rfl rfl
  have h1 := hp.arg 1 v1 _ rfl rfl
  have h2 := hp.arg 2 v2 _ rfl rfl
  have e1 : v1 = .int .i64 i := by
    cases h1 with | d h => cases h with | v x h => rfl
  subst e1
  obtain ⟨a, cap, C, ty, rfl, hb, k1, ktot, hle, ha, hel, hone⟩ := row_arg hp hk one rfl rfl h0
  obtain ⟨a2, cap2, X, ty2, rfl, hb2, m1, mtot, mle, ma, mel, mone⟩ := row_arg hp hk one (r := 1) (l := [e]) rfl hln h2
  have ma : a2 = some ⟨(ι 1).b, (ι 1).off, none⟩ := by
    rcases ma with h | ⟨h, _⟩
    · exact h
    · cases h
  subst ma
  rw [List.length_singleton] at mle mone ⊢
  have hne : (ι 1).b ≠ (ι 0).b := fun h => by
    have := hp.apart 1 0 _ _ rfl rfl h
    omega
  have hMut : ∀ o, (ι 0).off ≤ o → Mut [(0, ROW 5 c l 0), (1, ROW 5 c [e] 0)] ι (ι 0).b o := fun o ho => ⟨0, _, rfl, rfl, by simp only [Ob.from]; omega⟩
  have hgo := @row_post T c 5 F w ι _ _ _ hp 2 hk (l.take i ++ e :: l.drop i)
  have hlen : l.length + 1 = (l.take i ++ e :: l.drop i).length := by
    rw [List.length_append, List.length_take, List.length_cons, List.length_drop]; omega
  generalize hoff : (ι 0).off = off at *
  generalize hbb : (ι 0).b = b at *
  generalize hoff2 : (ι 1).off = voff at *
  generalize hbb2 : (ι 1).b = vb at *
  have hcel : ∀ t, w.cell? ⟨b, t, none⟩ = C[t]? := fun t => by simp [World.cell?, k1]
  have hcel2 : ∀ t, w.cell? ⟨vb, t, none⟩ = X[t]? := fun t => by simp [World.cell?, m1]
  have hCl : C.toList.length = C.size := Array.length_toList
  have hXl : X.toList.length = X.size := Array.length_toList
  have hln : off + l.length * 5 ≤ C.size := by
    by_cases h : l.length = 0
    · by_cases h' : off ≤ C.size
      · omega
      · omega
    · obtain ⟨u, hu, _⟩ := hone (l.length * 5 - 1) (by omega)
      have := (Array.getElem?_eq_some_iff.1 hu).1
      omega
  obtain ⟨cs, hcs⟩ : ∃ cs, cs = (C.toList.drop off).take (l.length * 5) := ⟨_, rfl⟩
  have hcl : cs.length = l.length * 5 := by rw [hcs, List.length_take, List.length_drop, hCl, Nat.min_eq_left]; omega
  have hcg : ∀ t, t < l.length * 5 → cs[t]? = C[off + t]? := fun t ht => by
    rw [hcs, List.getElem?_take, if_pos ht, List.getElem?_drop, Array.getElem?_toList]
  have hc1 : ∀ u ∈ cs, u.oneCell' = true := fun u hu => by
    obtain ⟨t, ht, rfl⟩ := List.getElem_of_mem hu
    obtain ⟨x, hx, h1⟩ := hone t (by omega)
    have := hcg t (by omega)
    rw [hx, List.getElem?_eq_getElem ht] at this
    cases this
    exact h1
  have hcc : ∀ j v, cs[j]? = some v → w.cell? ⟨b, off + j, none⟩ = some v := fun j v hj => by
    have : j < l.length * 5 := by rw [← hcl]; exact (List.getElem?_eq_some_iff.1 hj).1
    rw [hcel, ← hcg j this]; exact hj
  obtain ⟨xs, hxs⟩ : ∃ xs, xs = (X.toList.drop voff).take 5 := ⟨_, rfl⟩
  have hxl : xs.length = 5 := by rw [hxs, List.length_take, List.length_drop, hXl, Nat.min_eq_left]; omega
  have hxg : ∀ t, t < 5 → xs[t]? = X[voff + t]? := fun t ht => by
    rw [hxs, List.getElem?_take, if_pos ht, List.getElem?_drop, Array.getElem?_toList]
  have hx1 : ∀ u ∈ xs, u.oneCell' = true := fun u hu => by
    obtain ⟨t, ht, rfl⟩ := List.getElem_of_mem hu
    obtain ⟨x, hx, h1⟩ := mone t (by omega)
    have := hxg t (by omega)
    rw [hx, List.getElem?_eq_getElem ht] at this
    cases this
    exact h1
  have hxc : ∀ j v, xs[j]? = some v → w.cell? ⟨vb, voff + j, none⟩ = some v := fun j v hj => by
    have : j < 5 := by rw [← hxl]; exact (List.getElem?_eq_some_iff.1 hj).1
    rw [hcel2, ← hxg j this]; exact hj
  -- what the cells of the answer are
  have hans : ∀ (C' : Array Value) (o' : Nat), (∀ t, t < (l.length + 1) * 5 → C'[o' + t]? = if t < i * 5 then cs[t]? else if t < (i + 1) * 5 then xs[t - i * 5]? else cs[t - 5]?) →
      ∀ q j x d v, (l.take i ++ e :: l.drop i)[q]? = some x → (c x)[j]? = some d → C'[o' + q * 5 + j]? = some v → RD w (Im F [(0, ROW 5 c l 0), (1, ROW 5 c [e] 0)] ι) v d := fun C' o' hC' q t x d u hx hd hu => by
    have ht5 : t < 5 := by rw [← hk x]; exact (List.getElem?_eq_some_iff.1 hd).1
    have hql : q < l.length + 1 := by rw [hlen]; exact (List.getElem?_eq_some_iff.1 hx).1
    rw [Nat.add_assoc, hC' _ (by omega)] at hu
    rw [take_drop_get, List.length_take, Nat.min_eq_left hi] at hx
    by_cases hqi : q < i
    · rw [if_pos hqi, List.getElem?_take, if_pos hqi] at hx
      rw [if_pos (by omega), hcg _ (by omega), ← Nat.add_assoc] at hu
      exact hel q t x d u hx hd hu
    · rw [if_neg hqi] at hx
      by_cases hq2 : q = i
      · subst hq2
        rw [Nat.sub_self, List.getElem?_cons_zero] at hx
        rw [if_neg (by omega), if_pos (by omega), hxg _ (by omega)] at hu
        exact mel 0 t x d u (by rw [← hx]; rfl) hd (by rw [← hu]; congr 1; omega)
      · obtain ⟨m, rfl⟩ : ∃ m, q = i + (m + 1) := ⟨q - i - 1, by omega⟩
        rw [Nat.add_sub_cancel_left, List.getElem?_cons_succ, List.getElem?_drop] at hx
        rw [if_neg (by omega), if_neg (by omega), hcg _ (by omega)] at hu
        exact hel (i + m) t x d u hx hd (by rw [← hu]; congr 1; omega)
  have hfr : ∀ t, w.frozen? ⟨b, t, none⟩ = false := fun t => by simp [World.frozen?, k1]
  have hfr2 : ∀ t, w.frozen? ⟨vb, t, none⟩ = false := fun t => by simp [World.frozen?, m1]
  by_cases hroom : l.length + 1 ≤ cap
  · have ha : a = some ⟨b, off, none⟩ := by
      rcases ha with h | ⟨_, h⟩
      · exact h
      · omega
    subst ha
    have hsp : ∀ t, t < (l.length + 1) * 5 → (w.cell? ⟨b, off + t, none⟩).isSome = true := fun t ht => by
      rw [hcel, Array.getElem?_eq_getElem (by omega)]; rfl
    have hb0 : w.heap.size ≤ b ∨ ∃ r ob, getH [(0, ROW 5 c l 0), (1, ROW 5 c [e] 0)] r = some ob ∧ (ι r).b = b ∧ ob.from (ι r) ≤ off := .inr ⟨0, _, rfl, hbb, by simp only [Ob.from]; omega⟩
    have hd : w.drew.heap[b]? = some (.cells C ty (0, 0)) := k1
    by_cases hlast : i < l.length
    · have hdl : (cs.drop (i * 5)).length = (l.length - i) * 5 := by rw [List.length_drop, hcl]; omega
      have hd1 : ∀ u ∈ cs.drop (i * 5), u.oneCell' = true := fun u hu => hc1 u (List.mem_of_mem_drop hu)
      obtain ⟨C1, a1, a2, a3, a4, a5, a6, a7, a8, a9⟩ := setCells_is (P := Tryz.prog) (o := off + (i + 1) * 5) (vs := cs.drop (i * 5)) hd (by rw [hdl]; omega) hd1
      obtain ⟨C2, b1, b2, b3, b4, b5, b6, b7, b8, b9⟩ := setCells_is (P := Tryz.prog) (o := off + i * 5) (vs := xs) a1 (by rw [hxl, a2]; omega) hx1
      refine (insE_shift b off l.length cap i vb voff cap2 cs xs w hlast (by omega) hroom hne hcl hxl hcc hsp (fun t _ => hfr _) hxc hc1 hx1 ty2 ty X.size C.size (by simp [World.shape?, m1]) (by simp [World.shape?, k1]) (by omega) (hfr2 _) (hfr2 _)).mono fun e' w' he => ?_
      obtain ⟨rfl, rfl⟩ := he
      refine hgo (evo_wr k1 hMut (by rw [b6, a6]; rfl) ⟨by rw [b7, a7]; rfl, by rw [b8, a8]; exact Nat.le_succ _⟩ (by rw [b9, a9]; rfl) (by rw [b5, a5]; rfl) b1 (fun o ho => ?_) (fun q hq => by rw [b4 q hq, a4 q hq]; rfl)) b1 hlen (by omega) (by rw [b2, a2]; omega) hb0 (hans C2 off fun t ht => ?_)
      · rw [b3, if_neg (by omega), a3, if_neg (by omega)]
      · rw [b3, a3, hxl, hdl]
        by_cases q1 : t < i * 5
        · rw [if_neg (by omega), if_neg (by omega), if_pos q1, hcg t (by omega)]
        · by_cases q2 : t < (i + 1) * 5
          · rw [if_pos (by omega), if_neg q1, if_pos q2]; congr 1; omega
          · rw [if_neg (by omega), if_pos (by omega), if_neg q1, if_neg q2, List.getElem?_drop]; congr 1; omega
    · obtain rfl : i = l.length := by omega
      obtain ⟨C2, b1, b2, b3, b4, b5, b6, b7, b8, b9⟩ := setCells_is (P := Tryz.prog) (W := w) (o := off + l.length * 5) (vs := xs) k1 (by rw [hxl]; omega) hx1
      refine (insE_end b off l.length cap vb voff cap2 xs w (by omega) hroom hxl (fun t ht => by rw [Nat.add_assoc]; exact hsp _ (by omega)) (fun t _ => hfr _) hxc hx1).mono fun e' w' he => ?_
      obtain ⟨rfl, rfl⟩ := he
      refine hgo (evo_wr k1 hMut b6 ⟨b7, by rw [b8]; exact Nat.le_refl _⟩ b9 b5 b1 (fun o ho => ?_) b4) b1 hlen (by omega) (by rw [b2]; omega) hb0 (hans C2 off fun t ht => ?_)
      · rw [b3, if_neg (by omega)]
      · rw [b3, hxl]
        by_cases q1 : t < l.length * 5
        · rw [if_neg (by omega), if_pos q1, hcg t q1]
        · rw [if_pos (by omega), if_neg q1, if_pos (by omega)]; congr 1; omega
  · have hbig : (l.length + 1) * 72 ≤ 140737488355328 := by omega
    obtain ⟨G, hG⟩ : ∃ G, G = grownCap w (l.length + 1) cap 43 := ⟨_, rfl⟩
    have hGn : l.length + 1 ≤ G := by rw [hG]; exact grownCap_ge w _ _ _
    have zsz : ∀ k, (Builtin.zeroCells zE.cells k).size = k * 5 := fun k => by have := zL_len k; unfold zL at this; simpa using this
    by_cases hlast : i < l.length
    · have ha : a = some ⟨b, off, none⟩ := by
        rcases ha with h | ⟨h, _⟩
        · exact h
        · rw [h] at hlast; cases hlast
      subst ha
      have hG' := insE_grow b off l.length cap i vb voff cap2 cs xs w hlast hle (by omega) hbig hcl hxl hcc hxc hc1 hx1
      rw [← hG] at hG'
      obtain ⟨ROW', hR⟩ : ∃ R : Array Value, R = (cs.take (i * 5)).toArray ++ Builtin.zeroCells zE.cells (l.length + 1 - i) ++ Builtin.zeroCells zE.cells (G - (l.length + 1)) := ⟨_, rfl⟩
      rw [← hR] at hG'
      have hRs : ROW'.size = G * 5 := by
        rw [hR, Array.size_append, Array.size_append, zsz, zsz, List.size_toArray, List.length_take, hcl]
        omega
      have hRg : ∀ t, t < i * 5 → ROW'[t]? = cs[t]? := fun t ht => by
        have e1 : (cs.take (i * 5)).toArray.size = i * 5 := by rw [List.size_toArray, List.length_take, hcl]; omega
        rw [hR, Array.getElem?_append_left (by rw [Array.size_append, e1]; omega), Array.getElem?_append_left (by rw [e1]; exact ht), List.getElem?_toArray, List.getElem?_take, if_pos ht]
      have hw0 : (w.alloc (.cells ROW' 43)).drew.heap[w.heap.size]? = some (.cells ROW' 43 (0, 0)) := Array.getElem?_push_size
      have hwo : ∀ q, q < w.heap.size → (w.alloc (.cells ROW' 43)).drew.heap[q]? = w.heap[q]? := fun q hq => by show (w.heap.push _)[q]? = _; rw [Array.getElem?_push, if_neg (Nat.ne_of_lt hq)]
      have hws : (w.alloc (.cells ROW' 43)).drew.heap.size = w.heap.size + 1 := Array.size_push _
      have hdl : (cs.drop (i * 5)).length = (l.length - i) * 5 := by rw [List.length_drop, hcl]; omega
      have hd1 : ∀ u ∈ cs.drop (i * 5), u.oneCell' = true := fun u hu => hc1 u (List.mem_of_mem_drop hu)
      obtain ⟨C1, a1, a2, a3, a4, a5, a6, a7, a8, a9⟩ := setCells_is (P := Tryz.prog) (o := i * 5) (vs := xs) hw0 (by rw [hxl, hRs]; omega) hx1
      have a1' : ((w.alloc (.cells ROW' 43)).drew.setCells w.heap.size (i * 5) xs).drew.heap[w.heap.size]? = some (.cells C1 43 (0, 0)) := a1
      obtain ⟨C2, b1, b2, b3, b4, b5, b6, b7, b8, b9⟩ := setCells_is (P := Tryz.prog) (o := (i + 1) * 5) (vs := cs.drop (i * 5)) a1' (by rw [hdl, a2, hRs]; omega) hd1
      refine hG'.mono fun e' w' he => ?_
      obtain ⟨rfl, rfl⟩ := he
      refine hgo (evo_new (by rw [b6]; exact a6) ⟨by rw [b7]; exact a7, by rw [b8]; show w.drawn ≤ _ + 1; rw [a8]; show w.drawn ≤ w.drawn + 1 + 1; omega⟩ (by rw [b9]; exact a9) (by rw [b5]; show w.heap.size ≤ (World.setCells _ _ _ _).heap.size; rw [a5, hws]; omega) (fun q hq => by rw [b4 q (by omega)]; show (World.setCells _ _ _ _).heap[q]? = _; rw [a4 q (by omega), hwo q hq])) b1 hlen hGn (by rw [b2, a2, hRs]; omega) (.inl (Nat.le_refl _)) (hans C2 0 fun t ht => ?_)
      rw [Nat.zero_add, b3, a3, hxl, hdl]
      by_cases q1 : t < i * 5
      · rw [if_neg (by omega), if_neg (by omega), if_pos q1, hRg t q1]
      · by_cases q2 : t < (i + 1) * 5
        · rw [if_neg (by omega), if_pos (by omega), if_neg q1, if_pos q2]
        · rw [if_pos (by omega), if_neg q1, if_neg q2, List.getElem?_drop]; congr 1; omega
    · obtain rfl : i = l.length := by omega
      have hG' := insE_end_grow a l.length cap vb voff cap2 cs xs w hle (by omega) hbig hcl hxl (fun h => by rcases ha with h' | ⟨h', _⟩; rw [h'] at h; cases h; rw [h']; rfl) (fun ad had j v hj => by
        rcases ha with h' | ⟨h', _⟩
        · rw [h'] at had; cases had; rw [Addr.add_lit]; exact hcc j v hj
        · rw [h'] at hcl; rw [List.length_eq_zero_iff.1 hcl] at hj; simp at hj) hxc hx1
      rw [← hG] at hG'
      obtain ⟨ROW', hR⟩ : ∃ R : Array Value, R = (cs ++ xs).toArray ++ Builtin.zeroCells zE.cells (G - (l.length + 1)) := ⟨_, rfl⟩
      rw [← hR] at hG'
      have e1 : (cs ++ xs).toArray.size = (l.length + 1) * 5 := by rw [List.size_toArray, List.length_append, hcl, hxl]; omega
      have hRs : ROW'.size = G * 5 := by
        rw [hR, Array.size_append, zsz, e1]
        omega
      have hRg : ∀ t, t < (l.length + 1) * 5 → ROW'[t]? = (cs ++ xs)[t]? := fun t ht => by
        rw [hR, Array.getElem?_append_left (by rw [e1]; exact ht), List.getElem?_toArray]
      have hw0 : (w.drew.alloc (.cells ROW' 43)).heap[w.heap.size]? = some (.cells ROW' 43 (0, 0)) := Array.getElem?_push_size
      have hwo : ∀ q, q < w.heap.size → (w.drew.alloc (.cells ROW' 43)).heap[q]? = w.heap[q]? := fun q hq => by show (w.heap.push _)[q]? = _; rw [Array.getElem?_push, if_neg (Nat.ne_of_lt hq)]
      refine hG'.mono fun e' w' he => ?_
      obtain ⟨rfl, rfl⟩ := he
      refine hgo (evo_new rfl ⟨rfl, Nat.le_succ _⟩ rfl (by show _ ≤ (w.heap.push _).size; rw [Array.size_push]; omega) hwo) hw0 hlen hGn (by rw [hRs]; omega) (.inl (Nat.le_refl _)) (hans ROW' 0 fun t ht => ?_)
      rw [Nat.zero_add, hRg t ht, take_drop_get, hcl]
      by_cases q1 : t < l.length * 5
      · rw [if_pos q1, if_pos q1]
      · rw [if_neg q1, if_neg q1, if_pos (by omega)]
end
end Go.Ab
end
