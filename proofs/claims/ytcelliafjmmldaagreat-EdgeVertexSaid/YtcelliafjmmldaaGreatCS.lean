/-
  TEXTS PUT TOGETHER: ClSl, ClS.
-/
import Derived.Test.YtcelliafjmmldaaGreatRows
import Derived.Shelf.SlSortCmp.WholeK
import Derived.WalkKit
import Derived.Test.YtcelliafjmmldaaGreatTJ
import Derived.Shelf.SlSortCmp.NoneTotal
section
/-
  SLICES.SORTFUNC AT PAIRS OF NUMBERS: the kit's contract laid at this program, and the order's own walk.
-/
namespace Go.Ab
open Go.Proofs Go.Proofs.YtcelliafjmmldaaGreat Go.Shelf Go.RowKit Go.Lib Go.Sort
set_option maxRecDepth 100000
def sortRenE : Go.Shelf.Ren := ⟨fun | 6 => 173 | 14 => 233 | 15 => 143 | 20 => 275 | 21 => 276 | 22 => 277 | 23 => 278 | 24 => 279 | 25 => 280 | 26 => 281 | 27 => 282 | 28 => 204 | 29 => 205 | 46 => 304 | 47 => 257 | 48 => 258 | 49 => 305 | 50 => 306 | 57 => 313 | n => n, fun | 0 => 0 | 3 => 3 | 4 => 4 | 5 => 5 | 9 => 9 | 22 => 220 | 24 => 167 | 25 => 162 | 39 => 197 | 45 => 241 | 46 => 242 | 50 => 227 | 53 => 151 | 55 => 121 | 66 => 274 | 70 => 278 | 76 => 303 | 77 => 270 | n => n, fun | n => n⟩
theorem sortLaysE : SlLaysF0.n6 Tryz.prog sortRenE where
  mixed := by kernel_rfl
  f6 := ⟨ "slices.SortFunc[[]talweg/vertex.ends,talweg/vertex.ends]", by decide, Go.Proofs.Tryz.func173.trans (congrArg some (by kernel_rfl))⟩
  f14 := ⟨ "slices.pdqsortCmpFunc[talweg/vertex.ends]", by decide, Go.Proofs.Tryz.func233.trans (congrArg some (by kernel_rfl))⟩
  f15 := Go.Proofs.Tryz.func143.trans (congrArg some (by kernel_rfl))
  f20 := ⟨ "slices.insertionSortCmpFunc[talweg/vertex.ends]", by decide, Go.Proofs.Tryz.func275.trans (congrArg some (by kernel_rfl))⟩
  f21 := ⟨ "slices.heapSortCmpFunc[talweg/vertex.ends]", by decide, Go.Proofs.Tryz.func276.trans (congrArg some (by kernel_rfl))⟩
  f22 := ⟨ "slices.breakPatternsCmpFunc[talweg/vertex.ends]", by decide, Go.Proofs.Tryz.func277.trans (congrArg some (by kernel_rfl))⟩
  f23 := ⟨ "slices.choosePivotCmpFunc[talweg/vertex.ends]", by decide, Go.Proofs.Tryz.func278.trans (congrArg some (by kernel_rfl))⟩
  f24 := ⟨ "slices.reverseRangeCmpFunc[talweg/vertex.ends]", by decide, Go.Proofs.Tryz.func279.trans (congrArg some (by kernel_rfl))⟩
  f25 := ⟨ "slices.partialInsertionSortCmpFunc[talweg/vertex.ends]", by decide, Go.Proofs.Tryz.func280.trans (congrArg some (by kernel_rfl))⟩
  f26 := ⟨ "slices.partitionEqualCmpFunc[talweg/vertex.ends]", by decide, Go.Proofs.Tryz.func281.trans (congrArg some (by kernel_rfl))⟩
  f27 := ⟨ "slices.partitionCmpFunc[talweg/vertex.ends]", by decide, Go.Proofs.Tryz.func282.trans (congrArg some (by kernel_rfl))⟩
  f28 := Go.Proofs.Tryz.func204.trans (congrArg some (by kernel_rfl))
  f29 := Go.Proofs.Tryz.func205.trans (congrArg some (by kernel_rfl))
  f46 := ⟨ "slices.siftDownCmpFunc[talweg/vertex.ends]", by decide, Go.Proofs.Tryz.func304.trans (congrArg some (by kernel_rfl))⟩
  f47 := Go.Proofs.Tryz.func257.trans (congrArg some (by kernel_rfl))
  f48 := Go.Proofs.Tryz.func258.trans (congrArg some (by kernel_rfl))
  f49 := ⟨ "slices.medianAdjacentCmpFunc[talweg/vertex.ends]", by decide, Go.Proofs.Tryz.func305.trans (congrArg some (by kernel_rfl))⟩
  f50 := ⟨ "slices.medianCmpFunc[talweg/vertex.ends]", by decide, Go.Proofs.Tryz.func306.trans (congrArg some (by kernel_rfl))⟩
  f57 := ⟨ "slices.order2CmpFunc[talweg/vertex.ends]", by decide, Go.Proofs.Tryz.func313.trans (congrArg some (by kernel_rfl))⟩
  t0 := Go.Proofs.Tryz.underlying0
  a0 := Go.Proofs.Tryz.isAgg0
  z0 := Go.Proofs.Tryz.sizeOf0
  v0 := Go.Proofs.Tryz.zeroValue0
  t3 := Go.Proofs.Tryz.underlying3
  a3 := Go.Proofs.Tryz.isAgg3
  z3 := Go.Proofs.Tryz.sizeOf3
  v3 := Go.Proofs.Tryz.zeroValue3
  t4 := Go.Proofs.Tryz.underlying4
  a4 := Go.Proofs.Tryz.isAgg4
  z4 := Go.Proofs.Tryz.sizeOf4
  v4 := Go.Proofs.Tryz.zeroValue4
  t5 := Go.Proofs.Tryz.underlying5
  a5 := Go.Proofs.Tryz.isAgg5
  z5 := Go.Proofs.Tryz.sizeOf5
  v5 := Go.Proofs.Tryz.zeroValue5
  t9 := Go.Proofs.Tryz.underlying9
  a9 := Go.Proofs.Tryz.isAgg9
  z9 := Go.Proofs.Tryz.sizeOf9
  v9 := Go.Proofs.Tryz.zeroValue9
  t22 := Go.Proofs.Tryz.underlying220
  a22 := Go.Proofs.Tryz.isAgg220
  z22 := Go.Proofs.Tryz.sizeOf220
  v22 := Go.Proofs.Tryz.zeroValue220
  t25 := Go.Proofs.Tryz.underlying162
  a25 := Go.Proofs.Tryz.isAgg162
  z25 := Go.Proofs.Tryz.sizeOf162
  v25 := Go.Proofs.Tryz.zeroValue162
  t39 := Go.Proofs.Tryz.underlying197
  a39 := Go.Proofs.Tryz.isAgg197
  z39 := Go.Proofs.Tryz.sizeOf197
  v39 := Go.Proofs.Tryz.zeroValue197
  t45 := Go.Proofs.Tryz.underlying241
  a45 := Go.Proofs.Tryz.isAgg241
  z45 := Go.Proofs.Tryz.sizeOf241
  v45 := Go.Proofs.Tryz.zeroValue241
  t46 := Go.Proofs.Tryz.underlying242
  a46 := Go.Proofs.Tryz.isAgg242
  z46 := Go.Proofs.Tryz.sizeOf242
  v46 := Go.Proofs.Tryz.zeroValue242
  t50 := Go.Proofs.Tryz.underlying227
  a50 := Go.Proofs.Tryz.isAgg227
  z50 := Go.Proofs.Tryz.sizeOf227
  v50 := Go.Proofs.Tryz.zeroValue227
  t53 := Go.Proofs.Tryz.underlying151
  a53 := Go.Proofs.Tryz.isAgg151
  z53 := Go.Proofs.Tryz.sizeOf151
  v53 := Go.Proofs.Tryz.zeroValue151
  t55 := Go.Proofs.Tryz.underlying121
  a55 := Go.Proofs.Tryz.isAgg121
  z55 := Go.Proofs.Tryz.sizeOf121
  v55 := Go.Proofs.Tryz.zeroValue121
  t66 := Go.Proofs.Tryz.underlying274
  a66 := Go.Proofs.Tryz.isAgg274
  z66 := Go.Proofs.Tryz.sizeOf274
  v66 := Go.Proofs.Tryz.zeroValue274
  t70 := Go.Proofs.Tryz.underlying278
  a70 := Go.Proofs.Tryz.isAgg278
  z70 := Go.Proofs.Tryz.sizeOf278
  v70 := Go.Proofs.Tryz.zeroValue278
  t76 := Go.Proofs.Tryz.underlying303
  a76 := Go.Proofs.Tryz.isAgg303
  z76 := Go.Proofs.Tryz.sizeOf303
  v76 := Go.Proofs.Tryz.zeroValue303
  t77 := Go.Proofs.Tryz.underlying270
  a77 := Go.Proofs.Tryz.isAgg270
  z77 := Go.Proofs.Tryz.sizeOf270
  v77 := Go.Proofs.Tryz.zeroValue270
end Go.Ab
end

section
/-
  SLICES.SORTFUNC AT PAIRS OF NUMBERS, by the first, then by the second.
-/
namespace Go.Ab
open Go.Proofs Go.Proofs.YtcelliafjmmldaaGreat Go.RowKit Go.Lib Go.Shelf Go.Sort
open Go.Ab.M
set_option linter.unusedVariables false
set_option linter.unusedSimpArgs false

def encE (x : EndsP) : List Value := [.int .i64 x.from_, .int .i64 x.to_]
def cmpE (x y : EndsP) : Int := if x.from_ < y.from_ then -1 else if y.from_ < x.from_ then 1 else if x.to_ < y.to_ then -1 else if y.to_ < x.to_ then 1 else 0
/-- x is no greater than y -/
def leE (x y : EndsP) : Bool := decide (x.from_ < y.from_ ∨ (x.from_ = y.from_ ∧ x.to_ ≤ y.to_))
theorem ltE (x y : EndsP) : ltOf cmpE x y = decide (x.from_ < y.from_ ∨ (x.from_ = y.from_ ∧ x.to_ < y.to_)) := by
  unfold ltOf cmpE
  repeat' split
  all_goals (rw [decide_eq_decide]; omega)
theorem leE_eq : (fun x y => !ltOf cmpE y x) = leE := by
  funext x y
  rw [ltE]
  unfold leE
  rw [Bool.eq_iff_iff, Bool.not_eq_true', decide_eq_false_iff_not, decide_eq_true_eq]
  omega
theorem swoE : SWO (ltOf cmpE) where
  irrefl x := by rw [ltE, decide_eq_false_iff_not]; omega
  trans x y z h1 h2 := by rw [ltE, decide_eq_true_eq] at *; omega
  ntrans x y z h1 h2 := by rw [ltE, decide_eq_false_iff_not] at *; omega
theorem totE (x y : EndsP) (h1 : ltOf cmpE x y = false) (h2 : ltOf cmpE y x = false) : x = y := by
  rw [ltE, decide_eq_false_iff_not] at *
  cases x; cases y
  simp only at *
  congr 1 <;> omega

def sortE (l : List EndsP) : List EndsP := l.mergeSort leE
theorem sortE_length (l : List EndsP) : (sortE l).length = l.length := (List.mergeSort_perm l leE).length_eq
theorem leE_trans (a b c : EndsP) : leE a b = true → leE b c = true → leE a c = true := by
  unfold leE
  simp only [decide_eq_true_eq]
  omega
theorem leE_total (a b : EndsP) : (leE a b || leE b a) = true := by
  unfold leE
  simp only [Bool.or_eq_true, decide_eq_true_eq]
  omega
theorem leE_anti {a b : EndsP} (h1 : leE a b = true) (h2 : leE b a = true) : a = b := by
  unfold leE at *
  simp only [decide_eq_true_eq] at *
  cases a; cases b
  simp only at *
  congr 1 <;> omega
/-- all orders are sorted into one -/
theorem sortE_perm {l l' : List EndsP} (h : l.Perm l') : sortE l = sortE l' :=
  List.Perm.eq_of_pairwise (le := fun x y => leE x y = true) (fun a b _ _ h1 h2 => leE_anti h1 h2) (List.pairwise_mergeSort leE_trans leE_total _) (List.pairwise_mergeSort leE_trans leE_total _)
    (((List.mergeSort_perm l leE).trans h).trans (List.mergeSort_perm l' leE).symm)

/-- what the program's order comes to -/
theorem or2E (x y : Int) : cmp_Or_int [x, y] = some (if x ≠ 0 then x else y) := by
  unfold cmp_Or_int cmp_Or_int_l
  have h0 : ∀ n, loopN (fun σ => cmp_Or_int_l_rd [x, y] σ) (n + 3) 0 = some (if x ≠ 0 then .inl x else if y ≠ 0 then .inl y else .inr ()) := fun n => by
    have r0 : cmp_Or_int_l_rd [x, y] 0 = if x ≠ 0 then some (.inr (.inl x)) else some (.inl 1) := by
      unfold cmp_Or_int_l_rd
      by_cases h : x = 0
      · subst h; rfl
      · have : (nth [x, y] 0 != 0) = true := by simpa [nth, bne] using h
        rw [this, if_pos h]; rfl
    have r1 : cmp_Or_int_l_rd [x, y] 1 = if y ≠ 0 then some (.inr (.inl y)) else some (.inl 2) := by
      unfold cmp_Or_int_l_rd
      by_cases h : y = 0
      · subst h; rfl
      · have : (nth [x, y] 1 != 0) = true := by simpa [nth, bne] using h
        rw [this, if_pos h]; rfl
    have r2 : cmp_Or_int_l_rd [x, y] 2 = some (.inr (.inr ())) := rfl
    by_cases hx : x = 0
    · by_cases hy : y = 0
      · rw [if_neg (by simpa using hx), if_neg (by simpa using hy)]
        simp only [loopN, r0, if_neg (show ¬ x ≠ 0 by simpa using hx), Option.bind_some, caseS, r1, if_neg (show ¬ y ≠ 0 by simpa using hy), r2]
      · rw [if_neg (by simpa using hx), if_pos hy]
        simp only [loopN, r0, if_neg (show ¬ x ≠ 0 by simpa using hx), Option.bind_some, caseS, r1, if_pos hy]
    · rw [if_pos hx]
      simp only [loopN, r0, if_pos hx, Option.bind_some, caseS]
  rw [show FU = 999999997 + 3 from rfl, h0]
  by_cases hx : x = 0
  · by_cases hy : y = 0
    · rw [if_neg (by simpa using hx), if_neg (by simpa using hy), if_neg (by simpa using hx), hy]; rfl
    · rw [if_neg (by simpa using hx), if_pos hy, if_neg (by simpa using hx)]; rfl
  · rw [if_pos hx, if_pos hx]; rfl
theorem compareE (x y : Int) : cmp_Compare_int x y = some (if x < y then -1 else if y < x then 1 else 0) := by
  unfold cmp_Compare_int cmp_isNaN_int
  simp only [Option.bind_some, bne_self_eq_false, cond_false]
  by_cases h : x < y
  · simp [h]
  · by_cases h2 : y < x
    · simp [h, h2]
    · simp [h, h2]
theorem labelsE (x y : EndsP) : vertex_labels_1 x y = some (cmpE x y) := by
  unfold vertex_labels_1
  simp only [compareE, Option.bind_some, or2E]
  congr 1
  unfold cmpE
  repeat' split
  all_goals omega
theorem closureE (x y : EndsP) (W : World) : Calls Tryz.prog 171 #[.agg #[.int .i64 x.from_, .int .i64 x.to_], .agg #[.int .i64 y.from_, .int .i64 y.to_]] W fun e w' => e = .returned (.int .i64 (cmpE x y)) ∧ ∃ q os', w' = grow (W.drewN q) os' := by
  have hag : ∀ (z : EndsP), RV W (fun b o => ¬ False) ι0 (.agg #[.int .i64 z.from_, .int .i64 z.to_]) (AG EndsP.D z) := fun z => by
    refine .agg _ _ rfl fun i v a hv ha => ?_
    match i, hv, ha with
    | 0, hv, ha => cases hv; cases ha; exact .d (.v _ rfl)
    | 1, hv, ha => cases hv; cases ha; exact .d (.v _ rfl)
  refine (flat_call (vertex_labels_1_ok x y (cmpE x y) (labelsE x y)) (F := fun _ _ => False) (W := W) (vs := #[.agg #[.int .i64 x.from_, .int .i64 x.to_], .agg #[.int .i64 y.from_, .int .i64 y.to_]]) rfl (fun i v a hv ha => ?_) (fun _ _ h => h.elim)).mono ?_
  · match i, hv, ha with
    | 0, hv, ha => cases hv; cases ha; exact hag x
    | 1, hv, ha => cases hv; cases ha; exact hag y
  · rintro e w' ⟨v, ι, rfl, hr, he⟩
    refine ⟨by cases hr with | d h => cases h with | v x h => rfl, w'.drawn - W.drawn, w'.heap.extract W.heap.size w'.heap.size, ?_⟩
    have h1 := he.os
    have h2 := he.tape
    have h3 := he.output
    have h4 : w'.heap = W.heap ++ w'.heap.extract W.heap.size w'.heap.size := by
      apply Array.ext_getElem?
      intro i
      by_cases hi : i < W.heap.size
      · rw [he.block i hi (fun _ h => h), Array.getElem?_append_left hi]
      · rw [Array.getElem?_append_right (by omega), Array.getElem?_extract]
        by_cases h : i < w'.heap.size
        · rw [if_pos (by omega)]
          congr 1
          omega
        · rw [if_neg (by omega), Array.getElem?_eq_none (by omega)]
    obtain ⟨heap, tape, drawn, os, output⟩ := w'
    obtain ⟨heap0, tape0, drawn0, os0, output0⟩ := W
    obtain ⟨h2, h2'⟩ := h2
    simp only at h1 h2 h3 h4 h2'
    subst h1 h2 h3
    simp only [grow, World.drewN]
    rw [← h4]
    congr 1
    omega

theorem cmpLaysE (blk off size : Nat) (w : World) : CmpLays Tryz.prog 171 #[] encE 2 cmpE blk off size w := fun _ _ _ _ x y => closureE x y _

theorem flatK_get (l : List EndsP) (t : Nat) (h : t < l.length * 2) : ∃ x, l[t / 2]? = some x ∧ (flatK encE 2 l.toArray)[t]! = if t % 2 = 0 then .int .i64 x.from_ else .int .i64 x.to_ := by
  have h1 : t / 2 < l.length := by omega
  refine ⟨l[t / 2], List.getElem?_eq_getElem h1, ?_⟩
  rw [get_flatK _ _ _ _ (by simpa using h), getElem!_pos l.toArray (t / 2) (by simpa using h1)]
  simp only [List.getElem_toArray, encE]
  rcases Nat.mod_two_eq_zero_or_one t with e | e <;> rw [e] <;> rfl

theorem sortE_ok_cons (l : List EndsP) (hne : l ≠ []) (hl : l.length < 4611686018427387904) :
    ACallsD Tryz.prog 173 1 [.msl 0 0 none none, .fn (.func 171) [] []] [(0, ROW 2 EndsP.D l 0)] (.tup []) [(0, ROW 2 EndsP.D (sortE l) 0)] := by
  intro F w ι vs hp
  obtain ⟨v0, v1, rfl⟩ : ∃ v0 v1, vs = #[v0, v1] := by
    have := hp.n
    cases vs with
    | mk l => match l, this with
      | [x, y], _ => exact ⟨x, y, rfl⟩
  have h0 := hp.arg 0 v0 _ rfl rfl
  have h1 := hp.arg 1 v1 _ rfl rfl
  obtain rfl : v1 = .func (.func 171) #[] #[] := by
    cases h1 with
    | fn f xs ys first cap hn hm hr hs =>
      have e1 : xs = #[] := Array.eq_empty_of_size_eq_zero hn
      have e2 : ys = #[] := Array.eq_empty_of_size_eq_zero hm
      rw [e1, e2]
  obtain ⟨hb, c, ty, k1, k2, k3, k4, k5, k6, k7, k8⟩ := hp.obj 0 _ rfl
  have k4 : (ι 0).n = l.length := by rw [k4, List.length_map]
  have k5 : (ι 0).off + l.length * 2 ≤ c.size := by simpa using k5
  have hpos : 0 < l.length := List.length_pos_iff.2 hne
  obtain ⟨cap, rfl, htot⟩ : ∃ cap, v0 = .slice (some ⟨(ι 0).b, (ι 0).off, none⟩) l.length cap ∧ l.length ≤ cap := by
    cases h0 with
    | msl r lo len ln cp cap hl' hle hk hn ht =>
      have : len = l.length := by rw [hl']; simpa using k4
      subst this
      exact ⟨cap, by simp, hle⟩
    | mslz r lo p ln cp hl' hk => simp at hl'; omega
  have hcell : ∀ t, t < l.length * 2 → c[(ι 0).off + t]? = some (flatK encE 2 l.toArray)[t]! := fun t ht => by
    obtain ⟨x, hx, e⟩ := flatK_get l t ht
    have hlt : (ι 0).off + t < c.size := by omega
    rw [Array.getElem?_eq_getElem hlt, e]
    congr 1
    have hd : (EndsP.D x)[t % 2]? = some (.v (if t % 2 = 0 then .int .i64 x.from_ else .int .i64 x.to_)) := by
      rcases Nat.mod_two_eq_zero_or_one t with e | e <;> rw [e] <;> rfl
    have := k8 (t / 2) (t % 2) (EndsP.D x) _ c[(ι 0).off + t] (by rw [List.getElem?_map, hx]; rfl) hd (by
      rw [Nat.add_assoc, show t / 2 * 2 + t % 2 = t by omega]; exact Array.getElem?_eq_getElem _)
    generalize c[(ι 0).off + t] = v at this
    cases this with | v x h => rfl
  generalize hoff : (ι 0).off = off at *
  generalize hbb : (ι 0).b = b at *
  have hcel : ∀ t, w.cell? ⟨b, t, none⟩ = c[t]? := fun t => by simp [World.cell?, k1]
  have hH : HoldsK encE 2 w b off l.toArray := fun t ht => by
    rw [size_flatK] at ht
    refine ⟨by rw [hcel]; exact hcell t (by simpa using ht), by simp [World.frozen?, k1]⟩
  have eg : ∀ args w, (callFunc 171 args).run Tryz.prog w = .ok (.enter 171 args) w := enters_of Tryz.func171 (by kernel_rfl) rfl
  have hS := AnyQ.slices_SortFunc_total sortLaysE 2 Tryz.isAgg167 Tryz.sizeOf167 encE (fun _ => rfl) (fun x v hv => by simp [encE] at hv; rcases hv with rfl | rfl <;> rfl) cmpE swoE 171 #[] b off cap l.toArray w eg (cmpLaysE b off _ w) hH hb (by simpa using hl) totE
  rw [leE_eq] at hS
  rw [show l.toArray.size = l.length from rfl] at hS
  refine hS.mono ?_
  rintro e w' ⟨rfl, n, os, rfl⟩
  show ∃ v r H' ι', _
  generalize hl2 : (l.toArray.toList.mergeSort leE) = l2
  have hl2 : sortE l = l2 := hl2
  rw [hl2]
  have hlen : l2.length = l.length := by rw [← hl2, sortE_length]
  clear hS
  have hW : ∀ q, q < w.heap.size → (sortWorldK encE 2 w b off n l2.toArray os).heap[q]? = if q = b then some (.cells (putCells id off (flatK encE 2 l2.toArray) c) ty (0, 0)) else w.heap[q]? := fun q hq => by
    unfold sortWorldK putRowK putRow
    rw [heap_grow_old _ _ (by simpa [mapBlock] using hq)]
    simp only [mapBlock, Array.getElem?_modify, heap_ahead]
    by_cases e : b = q
    · subst e
      rw [if_pos rfl, if_pos rfl, k1]
      rfl
    · rw [if_neg e, if_neg (Ne.symm e)]
  have hsz : w.heap.size ≤ (sortWorldK encE 2 w b off n l2.toArray os).heap.size := by
    unfold sortWorldK
    rw [size_grow]
    have : (putRowK encE 2 (Sort.ahead w n) b off l2.toArray).heap.size = w.heap.size := Go.Sort.size_putRow _ _ _ _ _
    omega
  have hWb := hW b hb
  rw [if_pos rfl] at hWb
  have hput : ∀ k, (putCells id off (flatK encE 2 l2.toArray) c)[k]? = if off ≤ k ∧ k < off + l.length * 2 then some (flatK encE 2 l2.toArray)[k - off]! else c[k]? := fun k => by
    simp only [putCells, Array.getElem?_mapIdx, size_flatK, List.size_toArray, hlen]
    by_cases hk : k < c.size
    · rw [Array.getElem?_eq_getElem hk]
      simp only [Option.map_some, id]
      split <;> rfl
    · rw [Array.getElem?_eq_none (by omega), if_neg (by omega)]
      rfl
  have hM : ∀ (l' : List EndsP) q o, Mut [(0, ROW 2 EndsP.D l' 0)] ι q o ↔ q = b ∧ off ≤ o := fun l' q o => by
    constructor
    · rintro ⟨r, ob, m1, m2, m3⟩
      rw [getH_cons] at m1
      split at m1
      · rename_i e
        subst e
        cases m1
        refine ⟨m2.symm.trans hbb, ?_⟩
        simp only [Ob.from, hoff] at m3
        omega
      · cases m1
    · rintro ⟨rfl, h⟩
      exact ⟨0, _, rfl, hbb, by simp only [Ob.from, hoff]; omega⟩
  refine ⟨_, _, _, ι, rfl, ⟨rfl, rfl⟩, .tup _ _ rfl fun i v x hv => by simp at hv, fun k o hk => ?_, fun k k' o o' a1 a2 _ => ?_, ⟨rfl, ⟨rfl, Nat.le_add_right _ _⟩, rfl, hsz, fun q o x hx hm => ?_, fun q hq hm => ?_⟩, fun q o hm => .inr ?_, fun _ _ => rfl, fun r o hr q => ?_⟩
  · rw [getH_cons] at hk
    split at hk
    · rename_i e
      subst e
      cases hk
      refine ⟨by rw [hbb]; exact Nat.lt_of_lt_of_le hb hsz, _, ty, by rw [hbb]; exact hWb, k2, by rw [k3]; simp [putCells], by rw [k4, List.length_map, hlen], by rw [List.length_map, hlen, hoff]; simpa [putCells] using k5, Nat.zero_le _, fun q c' hq => ?_, fun q j' c' d u hq hd hu => ?_⟩
      · rw [List.getElem?_map, Option.map_eq_some_iff] at hq
        obtain ⟨x, _, rfl⟩ := hq
        rfl
      · rw [List.getElem?_map, Option.map_eq_some_iff] at hq
        obtain ⟨x, hx, rfl⟩ := hq
        have hj' : j' < 2 := (List.getElem?_eq_some_iff.1 hd).1
        have hqlt : q < l2.length := (List.getElem?_eq_some_iff.1 hx).1
        rw [hoff, hput, if_pos (by omega)] at hu
        obtain ⟨y, hy, e⟩ := flatK_get l2 (off + q * 2 + j' - off) (by omega)
        rw [e, show (off + q * 2 + j' - off) % 2 = j' by omega] at hu
        rw [show (off + q * 2 + j' - off) / 2 = q by omega, hx] at hy
        cases hy
        cases hu
        have : d = .v (if j' = 0 then .int .i64 x.from_ else .int .i64 x.to_) := by
          match j', hj' with
          | 0, _ => cases hd; rfl
          | 1, _ => cases hd; rfl
        subst this
        refine .v _ ?_
        split <;> rfl
    · cases hk
  · rw [getH_cons] at a1 a2
    split at a1
    · split at a2
      · omega
      · cases a2
    · cases a1
  · have hm : ¬ (q = b ∧ off ≤ o) := fun h => hm ((hM l q o).2 h)
    have hlt := cell_lt hx
    by_cases hq : q = b
    · subst hq
      rw [hcel] at hx
      simp only [World.cell?, hWb]
      rw [← hx]
      show (putCells id off (flatK encE 2 l2.toArray) c)[o]? = c[o]?
      rw [hput, if_neg (by omega)]
    · rw [cell_same ((hW q hlt).trans (if_neg hq))]
      exact hx
  · have hq' : q ≠ b := fun h => hm off ((hM l q off).2 ⟨h, Nat.le_refl _⟩)
    rw [hW q hq, if_neg hq']
  · exact (hM _ _ _).2 ((hM _ _ _).1 hm)
  · rw [getH_cons] at hr
    split at hr
    · rename_i e
      subst e
      exact hp.apartF 0 _ rfl q
    · cases hr

theorem sortE_none_ok_ :
    ACallsD Tryz.prog 173 0 [SL EndsP.D ([] : List EndsP), .fn (.func 171) [] []] [] (.tup []) [] := by
  intro F w ι vs hp
  obtain ⟨v0, v1, rfl⟩ : ∃ v0 v1, vs = #[v0, v1] := by
    have := hp.n
    cases vs with
    | mk l => match l, this with
      | [x, y], _ => exact ⟨x, y, rfl⟩
  have h0 := hp.arg 0 v0 _ rfl rfl
  obtain ⟨q, cap, rfl⟩ : ∃ q cap, v0 = .slice q 0 cap := by
    rcases rd_sl (by cases h0 with | d h => exact h) with ⟨b, off, sz, cap, f, e, _⟩ | ⟨a, cap, e, _⟩
    · exact ⟨_, _, e⟩
    · exact ⟨_, _, e⟩
  have hn : ∀ r o, getH [] r = some o → False := fun r o h => by cases h
  refine (AnyF.slices_SortFunc_none sortLaysE q cap v1 w).mono ?_
  rintro e w' ⟨rfl, rfl⟩
  exact ⟨_, _, _, ι, rfl, ⟨rfl, rfl⟩, .tup _ _ rfl fun i v x hv => by simp at hv, fun k o hk => (hn k o hk).elim, fun k k' o o' a1 => (hn k o a1).elim, .refl _ _, fun q o ⟨r, ob, m1, _⟩ => (hn r ob m1).elim, fun _ _ => rfl, fun r o hr => (hn r o hr).elim⟩
end Go.Ab
namespace Go.Ab.M
open Go.Proofs Go.Ab
def sortE_none : Option Unit := some ()
theorem sortE_none_ok : ∀ r, sortE_none = some r → ACallsD Tryz.prog 173 0 [SL EndsP.D ([] : List EndsP), .fn (.func 171) [] []] [] (.tup []) [] := fun _ _ => sortE_none_ok_
def sortE_m (o0 : List EndsP) : Option (List EndsP) := bif !o0.isEmpty && Nat.ble o0.length 4000000000 then some (sortE o0) else none
theorem sortE_m_ok (o0 : List EndsP) : ∀ r, sortE_m o0 = some r → ACallsD Tryz.prog 173 1 [.msl 0 0 none none, .fn (.func 171) [] []] [(0, ROW 2 EndsP.D o0 0)] (.tup []) [(0, ROW 2 EndsP.D r 0)] := by
  intro r h
  unfold sortE_m at h
  cases hb : (!o0.isEmpty && Nat.ble o0.length 4000000000) with
  | false => rw [hb] at h; cases h
  | true =>
    rw [hb] at h
    cases h
    rw [Bool.and_eq_true, Bool.not_eq_true', Bool.eq_false_iff, Ne, List.isEmpty_iff] at hb
    have := Nat.le_of_ble_eq_true hb.2
    exact sortE_ok_cons o0 hb.1 (by omega)
theorem sortE_m_perm {l l' : List EndsP} (h : l.Perm l') : sortE_m l = sortE_m l' := by
  unfold sortE_m
  rw [sortE_perm h, h.length_eq, show l.isEmpty = l'.isEmpty by rw [Bool.eq_iff_iff, List.isEmpty_iff, List.isEmpty_iff]; exact ⟨fun e => by subst e; exact h.nil_eq.symm, fun e => by subst e; exact h.eq_nil⟩]
theorem rv_ends (k : EndsP) (w : World) (I : Nat → Nat → Prop) (ι : Nat → Loc) : RV w I ι (Value.agg #[.int .i64 k.from_, .int .i64 k.to_]) (AG EndsP.D k) := by
  refine .agg _ _ rfl fun i v a hv ha => ?_
  match i, hv, ha with
  | 0, hv, ha => cases hv; cases ha; exact .d (.v _ rfl)
  | 1, hv, ha => cases hv; cases ha; exact .d (.v _ rfl)
end Go.Ab.M
end
