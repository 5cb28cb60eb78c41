/-
  TEXTS PUT TOGETHER: ClD2.
-/
import Derived.Test.YtpefcgiiigdcdaaGreatLI
import Derived.Test.YtpefcgiiigdcdaaGreatCL
section
/-
  SLICES.DELETE AT NUMBERS, on a row that is handed over whole.
-/
namespace Go.Ab
open Go.Proofs Go.Proofs.YtpefcgiiigdcdaaGreat Go.RowKit Go.Lib
set_option linter.unusedVariables false
set_option linter.unusedSimpArgs false

theorem delete_new (l : List Int) (i j : Nat) (hij : i < j) (hj : j ≤ l.length) :
    ACallsD Tryz.prog 118 1 [.msl 0 0 none none, I i, I j] [(0, ROW 1 (cI .i64) l 0)] (.msl 1 0 none none) [(1, ROW 1 (cI .i64) (l.take i ++ l.drop j) 0)] := by
  intro F w ι vs hp
  obtain ⟨v0, v1, v2, rfl⟩ : ∃ v0 v1 v2, vs = #[v0, v1, v2] := by
    have := hp.n
    cases vs with
    | mk l => match l, this with
      | [x, y, z], _ => exact ⟨x, y, z, rfl⟩
  have h0 := hp.arg 0 v0 _ rfl rfl
  have h1 := hp.arg 1 v1 _ rfl rfl
  have h2 := hp.arg 2 v2 _ rfl rfl
  have e1 : v1 = .int .i64 i := by
    cases h1 with | d h => cases h with | v x h => rfl
  have e2 : v2 = .int .i64 j := by
    cases h2 with | d h => cases h with | v x h => rfl
  subst e1; subst e2
  obtain ⟨hb, c, ty, k1, k2, k3, k4, k5, k6, k7, k8⟩ := hp.obj 0 _ rfl
  have k4 : (ι 0).n = l.length := by rw [k4, List.length_map]
  have k5 : (ι 0).off + l.length ≤ c.size := by simpa using k5
  obtain ⟨cap, rfl, hlc, htot⟩ : ∃ cap, v0 = .slice (some ⟨(ι 0).b, (ι 0).off, none⟩) l.length cap ∧ l.length ≤ cap ∧ (ι 0).off + cap ≤ c.size := by
    cases h0 with
    | msl r lo len ln' cp cap hl' hle hk hn ht =>
      simp only [Option.getD_none, Nat.sub_zero] at hl'
      rw [k4] at hl'
      subst hl'
      refine ⟨cap, by simp, hle, ?_⟩
      rw [k2, k3] at ht
      simpa using ht
    | mslz r lo p ln' cp hl' hk => simp only [Option.getD_none, Nat.sub_zero] at hl'; omega
  have hMut : ∀ o, (ι 0).off ≤ o → Mut [(0, ROW 1 (cI .i64) l 0)] ι (ι 0).b o := fun o ho => ⟨0, _, rfl, rfl, by simp only [Ob.from]; omega⟩
  have hgo := @row_post Int (cI .i64) 1 F w ι _ _ _ hp 1 (fun _ => rfl) (l.take i ++ l.drop j)
  have hcell : ∀ t x, l[t]? = some x → c[(ι 0).off + t]? = some (.int .i64 x) := fun t x hx => by
    have hlt : t < l.length := (List.getElem?_eq_some_iff.1 hx).1
    have := k8 t 0 (cI .i64 x) (.v (.int .i64 x)) c[(ι 0).off + t] (by rw [List.getElem?_map, hx]; rfl) rfl (by rw [Nat.mul_one, Nat.add_zero]; exact Array.getElem?_eq_getElem _)
    rw [Array.getElem?_eq_getElem (by omega)]
    congr 1
    generalize c[(ι 0).off + t] = v at this
    cases this with | v x h => rfl
  generalize hoff : (ι 0).off = off at *
  generalize hbb : (ι 0).b = b at *
  obtain ⟨news, hnews⟩ : ∃ news, news = (l.drop j).map (Value.int .i64) := ⟨_, rfl⟩
  have hnl : news.length = l.length - j := by rw [hnews, List.length_map, List.length_drop]
  have hnget : ∀ t, news[t]? = (l[j + t]?).map (Value.int .i64) := fun t => by
    rw [hnews, List.getElem?_map, List.getElem?_drop]
  have hone : ∀ u ∈ news, u.oneCell' = true := fun u hu => by
    rw [hnews] at hu
    obtain ⟨x, _, rfl⟩ := List.mem_map.1 hu
    rfl
  have hz1 : ∀ u ∈ List.replicate (j - i) (Value.int .i64 0), u.oneCell' = true := fun u hu => by rw [List.eq_of_mem_replicate hu]; rfl
  have hd : w.drew.heap[b]? = some (.cells c ty (0, 0)) := k1
  have hW1 := setCells_setRow (P := Tryz.prog) w.drew b (off + i) ty news c hd (by rw [hnl]; omega) hone
  obtain ⟨c1, hc1⟩ : ∃ c1, c1 = (c.toList.take (off + i) ++ news ++ c.toList.drop (off + i + news.length)).toArray := ⟨_, rfl⟩
  have hg1 : ∀ k, c1[k]? = if off + i ≤ k ∧ k < off + i + news.length then news[k - (off + i)]? else c[k]? := fun k => by
    rw [hc1, List.getElem?_toArray, cut_get _ _ _ (by rw [hnl]; simp; omega)]
    simp
  have hs1 : c1.size = c.size := by
    rw [hc1]
    simp only [List.size_toArray, List.length_append, List.length_take, List.length_drop, Array.length_toList, hnl]
    omega
  rw [← hc1] at hW1
  clear hc1
  have hh1 : (w.drew.setRow b c1).heap[b]? = some (.cells c1 ty (0, 0)) := setRow_heap _ _ c _ ty _ hd
  have hW2 := setCells_setRow (P := Tryz.prog) (w.drew.setRow b c1) b (off + (i + (l.length - j))) ty (List.replicate (j - i) (.int .i64 0)) c1 hh1 (by rw [hs1, List.length_replicate]; omega) hz1
  obtain ⟨c2, hc2⟩ : ∃ c2, c2 = (c1.toList.take (off + (i + (l.length - j))) ++ List.replicate (j - i) (Value.int .i64 0) ++ c1.toList.drop (off + (i + (l.length - j)) + (List.replicate (j - i) (Value.int .i64 0)).length)).toArray := ⟨_, rfl⟩
  have hg2 : ∀ k, c2[k]? = if off + (i + (l.length - j)) ≤ k ∧ k < off + (i + (l.length - j)) + (j - i) then some (.int .i64 0) else c1[k]? := fun k => by
    rw [hc2, List.getElem?_toArray, cut_get _ _ _ (by rw [List.length_replicate]; simp; omega)]
    simp only [List.length_replicate, Array.getElem?_toList]
    split
    · rw [List.getElem?_replicate, if_pos (by omega)]
    · rfl
  have hs2 : c2.size = c.size := by
    rw [hc2]
    simp only [List.size_toArray, List.length_append, List.length_take, List.length_drop, Array.length_toList, List.length_replicate]
    omega
  rw [← hc2] at hW2
  clear hc2
  have hh2 : ((w.drew.setRow b c1).setRow b c2).heap[b]? = some (.cells c2 ty (0, 0)) := setRow_heap _ _ c1 _ ty _ hh1
  have hother : ∀ k, k ≠ b → ((w.drew.setRow b c1).setRow b c2).heap[k]? = w.heap[k]? := fun k hk => by rw [heap_setRow_other _ _ _ _ hk, heap_setRow_other _ _ _ _ hk]; rfl
  have hcel : ∀ t, w.cell? ⟨b, t, none⟩ = c[t]? := fun t => by simp [World.cell?, k1]
  refine (delete_walk b off l.length cap i j news w hij hj hlc hnl (fun t u hu => ?_) hone (fun t ht => ?_) (fun t ht => by simp [World.frozen?, k1]) (fun t ht => ?_) (fun t ht => ?_)).mono fun e w' he => ?_
  · rw [hnget t] at hu
    cases hx : l[j + t]? with
    | none => rw [hx] at hu; cases hu
    | some x =>
      rw [hx] at hu
      cases hu
      rw [hcel, Nat.add_assoc]
      exact hcell _ x hx
  · rw [hcel, Array.getElem?_eq_getElem (by omega)]; rfl
  · rw [hW1]
    simp only [World.cell?, hh1]
    rw [Array.getElem?_eq_getElem (by omega)]
    rfl
  · rw [hW1]
    simp [World.frozen?, hh1]
  · obtain ⟨rfl, rfl⟩ := he
    rw [hW1, hW2]
    have hsz : ((w.drew.setRow b c1).setRow b c2).heap.size = w.heap.size := by
      have h0 : w.drew.heap.size = w.heap.size := rfl
      rw [← h0]
      simp [World.setRow]
    refine hgo (evo_wr k1 hMut rfl ⟨rfl, Nat.le_succ _⟩ rfl hsz hh2 (fun o ho => ?_) hother) hh2 ?_ (by omega) (by rw [hs2, Nat.mul_one]; exact htot) (.inr ⟨0, _, rfl, hbb, ?_⟩) (fun q t x d u hx hd' hu => ?_)
    · rw [hg2, if_neg (by omega), hg1, if_neg (by omega)]
    · rw [List.length_append, List.length_take, List.length_drop]; omega
    · simp only [Ob.from]; omega
    · have ht : t = 0 := by
        have := (List.getElem?_eq_some_iff.1 hd').1
        simp only [cI, List.length_singleton] at this
        omega
      subst ht
      have hd'' : d = .v (.int .i64 x) := by
        simp only [cI, List.getElem?_cons_zero, Option.some.injEq] at hd'
        exact hd'.symm
      subst hd''
      have hql : q < i + (l.length - j) := by
        have := (List.getElem?_eq_some_iff.1 hx).1
        rw [List.length_append, List.length_take, List.length_drop] at this
        omega
      rw [Nat.mul_one, Nat.add_zero, hg2, if_neg (by omega), hg1] at hu
      by_cases hqi : q < i
      · rw [List.getElem?_append_left (by rw [List.length_take]; omega), List.getElem?_take, if_pos hqi] at hx
        rw [if_neg (by omega), hcell q x hx] at hu
        cases hu
        exact .v _ rfl
      · rw [List.getElem?_append_right (by rw [List.length_take]; omega), List.length_take, Nat.min_eq_left (by omega), List.getElem?_drop] at hx
        rw [if_pos (by omega), show off + q - (off + i) = q - i by omega, hnget, hx] at hu
        cases hu
        exact .v _ rfl
end Go.Ab
end
