/-
  TEXTS PUT TOGETHER: ClY.
-/
import Derived.Test.YtpefcgiiigdcdaaGreatLS
import Derived.Test.YtpefcgiiigdcdaaGreatTW
import Derived.Shelf.SlSortCmp.WholeK
import Derived.WalkKit
section
/-
  SLICES.SORTFUNC AT PAIRS: the kit's contract laid at this program, for the program's orders.
  Conditions: none.
-/
namespace Go.Ab
open Go.Proofs Go.Proofs.YtpefcgiiigdcdaaGreat Go.Shelf Go.RowKit Go.Lib Go.Sort
set_option maxRecDepth 100000
set_option linter.unusedVariables false
set_option linter.unusedSimpArgs false
def sortRenH : Go.Shelf.Ren := ⟨fun | 6 => 89 | 14 => 145 | 15 => 146 | 20 => 196 | 21 => 197 | 22 => 198 | 23 => 199 | 24 => 200 | 25 => 201 | 26 => 202 | 27 => 203 | 28 => 204 | 29 => 205 | 46 => 244 | 47 => 245 | 48 => 246 | 49 => 247 | 50 => 248 | 57 => 265 | n => n, fun | 0 => 0 | 3 => 3 | 4 => 4 | 5 => 5 | 9 => 9 | 22 => 50 | 24 => 114 | 25 => 164 | 39 => 226 | 45 => 257 | 46 => 258 | 50 => 235 | 53 => 166 | 55 => 132 | 66 => 287 | 70 => 291 | 76 => 305 | 77 => 306 | n => n, fun | n => n⟩
theorem sortLaysH : SlLaysF0.n6 Tryz.prog sortRenH where
  mixed := by kernel_rfl
  f6 := ⟨ "slices.SortFunc[[]talweg/api.Pair,talweg/api.Pair]", by decide, Go.Proofs.Tryz.func89.trans (congrArg some (by kernel_rfl))⟩
  f14 := ⟨ "slices.pdqsortCmpFunc[talweg/api.Pair]", by decide, Go.Proofs.Tryz.func145.trans (congrArg some (by kernel_rfl))⟩
  f15 := Go.Proofs.Tryz.func146.trans (congrArg some (by kernel_rfl))
  f20 := ⟨ "slices.insertionSortCmpFunc[talweg/api.Pair]", by decide, Go.Proofs.Tryz.func196.trans (congrArg some (by kernel_rfl))⟩
  f21 := ⟨ "slices.heapSortCmpFunc[talweg/api.Pair]", by decide, Go.Proofs.Tryz.func197.trans (congrArg some (by kernel_rfl))⟩
  f22 := ⟨ "slices.breakPatternsCmpFunc[talweg/api.Pair]", by decide, Go.Proofs.Tryz.func198.trans (congrArg some (by kernel_rfl))⟩
  f23 := ⟨ "slices.choosePivotCmpFunc[talweg/api.Pair]", by decide, Go.Proofs.Tryz.func199.trans (congrArg some (by kernel_rfl))⟩
  f24 := ⟨ "slices.reverseRangeCmpFunc[talweg/api.Pair]", by decide, Go.Proofs.Tryz.func200.trans (congrArg some (by kernel_rfl))⟩
  f25 := ⟨ "slices.partialInsertionSortCmpFunc[talweg/api.Pair]", by decide, Go.Proofs.Tryz.func201.trans (congrArg some (by kernel_rfl))⟩
  f26 := ⟨ "slices.partitionEqualCmpFunc[talweg/api.Pair]", by decide, Go.Proofs.Tryz.func202.trans (congrArg some (by kernel_rfl))⟩
  f27 := ⟨ "slices.partitionCmpFunc[talweg/api.Pair]", by decide, Go.Proofs.Tryz.func203.trans (congrArg some (by kernel_rfl))⟩
  f28 := Go.Proofs.Tryz.func204.trans (congrArg some (by kernel_rfl))
  f29 := Go.Proofs.Tryz.func205.trans (congrArg some (by kernel_rfl))
  f46 := ⟨ "slices.siftDownCmpFunc[talweg/api.Pair]", by decide, Go.Proofs.Tryz.func244.trans (congrArg some (by kernel_rfl))⟩
  f47 := Go.Proofs.Tryz.func245.trans (congrArg some (by kernel_rfl))
  f48 := Go.Proofs.Tryz.func246.trans (congrArg some (by kernel_rfl))
  f49 := ⟨ "slices.medianAdjacentCmpFunc[talweg/api.Pair]", by decide, Go.Proofs.Tryz.func247.trans (congrArg some (by kernel_rfl))⟩
  f50 := ⟨ "slices.medianCmpFunc[talweg/api.Pair]", by decide, Go.Proofs.Tryz.func248.trans (congrArg some (by kernel_rfl))⟩
  f57 := ⟨ "slices.order2CmpFunc[talweg/api.Pair]", by decide, Go.Proofs.Tryz.func265.trans (congrArg some (by kernel_rfl))⟩
  t0 := Go.Proofs.Tryz.underlying0
  a0 := Go.Proofs.Tryz.isAgg0
  z0 := Go.Proofs.Tryz.sizeOf0
  v0 := Go.Proofs.Tryz.zeroValue0
  t3 := Go.Proofs.Tryz.underlying3
  a3 := Go.Proofs.Tryz.isAgg3
  z3 := Go.Proofs.Tryz.sizeOf3
  v3 := Go.Proofs.Tryz.zeroValue3
  t4 := Go.Proofs.Tryz.underlying4
  a4 := Go.Proofs.Tryz.isAgg4
  z4 := Go.Proofs.Tryz.sizeOf4
  v4 := Go.Proofs.Tryz.zeroValue4
  t5 := Go.Proofs.Tryz.underlying5
  a5 := Go.Proofs.Tryz.isAgg5
  z5 := Go.Proofs.Tryz.sizeOf5
  v5 := Go.Proofs.Tryz.zeroValue5
  t9 := Go.Proofs.Tryz.underlying9
  a9 := Go.Proofs.Tryz.isAgg9
  z9 := Go.Proofs.Tryz.sizeOf9
  v9 := Go.Proofs.Tryz.zeroValue9
  t22 := Go.Proofs.Tryz.underlying50
  a22 := Go.Proofs.Tryz.isAgg50
  z22 := Go.Proofs.Tryz.sizeOf50
  v22 := Go.Proofs.Tryz.zeroValue50
  t25 := Go.Proofs.Tryz.underlying164
  a25 := Go.Proofs.Tryz.isAgg164
  z25 := Go.Proofs.Tryz.sizeOf164
  v25 := Go.Proofs.Tryz.zeroValue164
  t39 := Go.Proofs.Tryz.underlying226
  a39 := Go.Proofs.Tryz.isAgg226
  z39 := Go.Proofs.Tryz.sizeOf226
  v39 := Go.Proofs.Tryz.zeroValue226
  t45 := Go.Proofs.Tryz.underlying257
  a45 := Go.Proofs.Tryz.isAgg257
  z45 := Go.Proofs.Tryz.sizeOf257
  v45 := Go.Proofs.Tryz.zeroValue257
  t46 := Go.Proofs.Tryz.underlying258
  a46 := Go.Proofs.Tryz.isAgg258
  z46 := Go.Proofs.Tryz.sizeOf258
  v46 := Go.Proofs.Tryz.zeroValue258
  t50 := Go.Proofs.Tryz.underlying235
  a50 := Go.Proofs.Tryz.isAgg235
  z50 := Go.Proofs.Tryz.sizeOf235
  v50 := Go.Proofs.Tryz.zeroValue235
  t53 := Go.Proofs.Tryz.underlying166
  a53 := Go.Proofs.Tryz.isAgg166
  z53 := Go.Proofs.Tryz.sizeOf166
  v53 := Go.Proofs.Tryz.zeroValue166
  t55 := Go.Proofs.Tryz.underlying132
  a55 := Go.Proofs.Tryz.isAgg132
  z55 := Go.Proofs.Tryz.sizeOf132
  v55 := Go.Proofs.Tryz.zeroValue132
  t66 := Go.Proofs.Tryz.underlying287
  a66 := Go.Proofs.Tryz.isAgg287
  z66 := Go.Proofs.Tryz.sizeOf287
  v66 := Go.Proofs.Tryz.zeroValue287
  t70 := Go.Proofs.Tryz.underlying291
  a70 := Go.Proofs.Tryz.isAgg291
  z70 := Go.Proofs.Tryz.sizeOf291
  v70 := Go.Proofs.Tryz.zeroValue291
  t76 := Go.Proofs.Tryz.underlying305
  a76 := Go.Proofs.Tryz.isAgg305
  z76 := Go.Proofs.Tryz.sizeOf305
  v76 := Go.Proofs.Tryz.zeroValue305
  t77 := Go.Proofs.Tryz.underlying306
  a77 := Go.Proofs.Tryz.isAgg306
  z77 := Go.Proofs.Tryz.sizeOf306
  v77 := Go.Proofs.Tryz.zeroValue306

end Go.Ab
namespace Go.Ab.M
open Go.Ab Go.Proofs Go.Proofs.YtpefcgiiigdcdaaGreat Go.Shelf Go.RowKit Go.Lib Go.Sort
def cmpH (x y : Pair) : Int := if x.From < y.From then -1 else if y.From < x.From then 1 else if x.To < y.To then -1 else if y.To < x.To then 1 else 0
def leH (x y : Pair) : Bool := decide (x.From < y.From ∨ (x.From = y.From ∧ x.To ≤ y.To))
theorem ltH (x y : Pair) : ltOf cmpH x y = decide (x.From < y.From ∨ (x.From = y.From ∧ x.To < y.To)) := by
  unfold ltOf cmpH
  repeat' split
  all_goals (rw [decide_eq_decide]; omega)
theorem swoH : SWO (ltOf cmpH) where
  irrefl x := by rw [ltH, decide_eq_false_iff_not]; omega
  trans x y z h1 h2 := by rw [ltH, decide_eq_true_eq] at *; omega
  ntrans x y z h1 h2 := by rw [ltH, decide_eq_false_iff_not] at *; omega
theorem leH_trans (a b c : Pair) : leH a b = true → leH b c = true → leH a c = true := by
  unfold leH
  simp only [decide_eq_true_eq]
  omega
theorem leH_total (a b : Pair) : (leH a b || leH b a) = true := by
  unfold leH
  simp only [Bool.or_eq_true, decide_eq_true_eq]
  omega
theorem leH_anti {a b : Pair} (h1 : leH a b = true) (h2 : leH b a = true) : a.From = b.From ∧ a.To = b.To := by
  unfold leH at *
  simp only [decide_eq_true_eq] at *
  omega
theorem leH_of {x y : Pair} (h : ltOf cmpH y x = false) : leH x y = true := by
  rw [ltH, decide_eq_false_iff_not] at h
  unfold leH
  rw [decide_eq_true_eq]
  omega
def sortH (l : List Pair) : List Pair := l.mergeSort leH
theorem sortH_uniq {l m : List Pair} (h : True) (hp : m.Perm l) (hs : m.Pairwise fun x y => ltOf cmpH y x = false) : m = sortH l :=
  List.Perm.eq_of_pairwise (le := fun x y => leH x y = true) (fun a b ha hb h1 h2 => by obtain ⟨e1, e2⟩ := leH_anti h1 h2; cases a; cases b; simp only at e1 e2; rw [e1, e2])
    (hs.imp fun h => leH_of h) (List.pairwise_mergeSort leH_trans leH_total _) (hp.trans (List.mergeSort_perm l leH).symm)
theorem or2H (x y : Int) : cmp_Or_int [x, y] = some (if x ≠ 0 then x else y) := by
  unfold cmp_Or_int cmp_Or_int_l
  have h0 : ∀ n, loopN (fun σ => cmp_Or_int_l_rd [x, y] σ) (n + 3) 0 = some (if x ≠ 0 then .inl x else if y ≠ 0 then .inl y else .inr ()) := fun n => by
    have r0 : cmp_Or_int_l_rd [x, y] 0 = if x ≠ 0 then some (.inr (.inl x)) else some (.inl 1) := by
      unfold cmp_Or_int_l_rd
      by_cases h : x = 0
      · subst h; rfl
      · have : (nth [x, y] 0 != 0) = true := by simpa [nth, bne] using h
        rw [this, if_pos h]; rfl
    have r1 : cmp_Or_int_l_rd [x, y] 1 = if y ≠ 0 then some (.inr (.inl y)) else some (.inl 2) := by
      unfold cmp_Or_int_l_rd
      by_cases h : y = 0
      · subst h; rfl
      · have : (nth [x, y] 1 != 0) = true := by simpa [nth, bne] using h
        rw [this, if_pos h]; rfl
    have r2 : cmp_Or_int_l_rd [x, y] 2 = some (.inr (.inr ())) := rfl
    by_cases hx : x = 0
    · by_cases hy : y = 0
      · rw [if_neg (by simpa using hx), if_neg (by simpa using hy)]
        simp only [loopN, r0, if_neg (show ¬ x ≠ 0 by simpa using hx), Option.bind_some, caseS, r1, if_neg (show ¬ y ≠ 0 by simpa using hy), r2]
      · rw [if_neg (by simpa using hx), if_pos hy]
        simp only [loopN, r0, if_neg (show ¬ x ≠ 0 by simpa using hx), Option.bind_some, caseS, r1, if_pos hy]
    · rw [if_pos hx]
      simp only [loopN, r0, if_pos hx, Option.bind_some, caseS]
  rw [show FU = 999999997 + 3 from rfl, h0]
  by_cases hx : x = 0
  · by_cases hy : y = 0
    · rw [if_neg (by simpa using hx), if_neg (by simpa using hy), if_neg (by simpa using hx), hy]; rfl
    · rw [if_neg (by simpa using hx), if_pos hy, if_neg (by simpa using hx)]; rfl
  · rw [if_pos hx, if_pos hx]; rfl
theorem compareH (x y : Int) : cmp_Compare_int x y = some (if x < y then -1 else if y < x then 1 else 0) := by
  unfold cmp_Compare_int cmp_isNaN_int
  simp only [Option.bind_some, bne_self_eq_false, cond_false]
  by_cases h : x < y
  · simp [h]
  · by_cases h2 : y < x
    · simp [h, h2]
    · simp [h, h2]
theorem oneH (x : Pair) : (Pair.D x).all D.one = true := rfl
theorem sortH_m_ (g : Nat) (eg : ∀ args w, (callFunc g args).run Tryz.prog w = .ok (.enter g args) w) (hcl : ∀ x y, ACallsD Tryz.prog g 0 [AG Pair.D x, AG Pair.D y] [] (I (cmpH x y)) []) (l : List Pair) (hne : l ≠ []) (hl : l.length < 4611686018427387904) (h : True) :
    ACallsD Tryz.prog 89 1 [.msl 0 0 none none, .fn (.func g) [] []] [(0, ROW 2 Pair.D l 0)] (.tup []) [(0, ROW 2 Pair.D (sortH l) 0)] :=
  sort_acalls (k := 2) sortLaysH (fun x => rfl) oneH (by decide) Tryz.isAgg114 Tryz.sizeOf114 swoH g eg hcl l (sortH l) hne hl fun m hp hs => sortH_uniq h hp hs
theorem sortH_none_ (g : Nat) : ACallsD Tryz.prog 89 0 [SL Pair.D ([] : List Pair), .fn (.func g) [] []] [] (.tup []) [] := by
  intro F w ι vs hp
  obtain ⟨v0, v1, rfl⟩ : ∃ v0 v1, vs = #[v0, v1] := by
    have := hp.n
    cases vs with
    | mk l => match l, this with
      | [x, y], _ => exact ⟨x, y, rfl⟩
  have h0 := hp.arg 0 v0 _ rfl rfl
  obtain ⟨q, cap, rfl⟩ : ∃ q cap, v0 = .slice q 0 cap := by
    rcases rd_sl (by cases h0 with | d h => exact h) with ⟨b, off, sz, cap, f, e, _⟩ | ⟨a, cap, e, _⟩
    · exact ⟨_, _, e⟩
    · exact ⟨_, _, e⟩
  have hn : ∀ r o, getH [] r = some o → False := fun r o h => by cases h
  refine (AnyF.slices_SortFunc_none sortLaysH q cap v1 w).mono ?_
  rintro e w' ⟨rfl, rfl⟩
  exact ⟨_, _, _, ι, rfl, ⟨rfl, rfl⟩, .tup _ _ rfl fun i v x hv => by simp at hv, fun k o hk => (hn k o hk).elim, fun k k' o o' a1 => (hn k o a1).elim, .refl _ _, fun q o ⟨r, ob, m1, _⟩ => (hn r ob m1).elim, fun _ _ => rfl, fun r o hr => (hn r o hr).elim⟩
def sortH_none : Option Unit := some ()
def sortH_m (o0 : List Pair) : Option (List Pair) := bif !o0.isEmpty && (Nat.ble o0.length 4000000000) then some (sortH o0) else none
theorem sortH_m_eq {o0 r : List Pair} (h : sortH_m o0 = some r) : o0 ≠ [] ∧ o0.length < 4611686018427387904 ∧ (True) ∧ r = sortH o0 := by
  unfold sortH_m at h
  cases hb : (!o0.isEmpty && (Nat.ble o0.length 4000000000)) with
  | false => rw [hb] at h; cases h
  | true =>
    rw [hb] at h
    cases h
    simp only [Bool.and_eq_true, Bool.not_eq_true', Bool.eq_false_iff, Ne, List.isEmpty_iff] at hb
    have := Nat.le_of_ble_eq_true hb.2
    exact ⟨hb.1, by omega, trivial, rfl⟩

theorem shape_order_cl (x y : Pair) : shape_order x y = some (cmpH x y) := by
  unfold shape_order
  simp only [compareH, Option.bind_some, or2H]
  congr 1
  unfold cmpH
  repeat' split
  all_goals omega
theorem sortH_shape_none_ok : ∀ r, sortH_none = some r → ACallsD Tryz.prog 89 0 [SL Pair.D ([] : List Pair), .fn (.func 90) [] []] [] (.tup []) [] := fun _ _ => sortH_none_ _
theorem sortH_shape_ok (o0 : List Pair) : ∀ r, sortH_m o0 = some r → ACallsD Tryz.prog 89 1 [.msl 0 0 none none, .fn (.func 90) [] []] [(0, ROW 2 Pair.D o0 0)] (.tup []) [(0, ROW 2 Pair.D r 0)] := fun r h => by
  obtain ⟨h1, h2, h3, rfl⟩ := sortH_m_eq h
  exact sortH_m_ 90 (enters_of Tryz.func90 (by kernel_rfl) rfl) (fun x y => shape_order_ok x y _ (shape_order_cl x y)) o0 h1 h2 h3
end Go.Ab.M
end
