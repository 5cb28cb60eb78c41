/-
  TEXTS PUT TOGETHER: ClR.
-/
import Derived.Test.YtpefcgiiigdcdaaGreatLC
import Derived.Maps.RangeWalk
import Derived.WalkKit
section
/-
  REGS.RELEASE: A RANGE OVER A MAP THAT DELETES AS IT GOES.
-/
namespace Go.Ab
open Go.Proofs Go.RowKit
set_option linter.unusedVariables false
set_option linter.unusedSimpArgs false

theorem eraseIdx_filter {α : Type} (f : α → Nat) : ∀ (l : List α) (j : Nat) (e : α), l[j]? = some e → (l.map f).Nodup → l.eraseIdx j = l.filter fun x => decide (f x ≠ f e)
  | [], j, e, h, _ => by simp at h
  | a :: l, 0, e, h, hn => by
    cases h
    rw [List.map_cons, List.nodup_cons] at hn
    rw [List.eraseIdx_zero, List.tail_cons, List.filter_cons, if_neg (by simp)]
    symm
    rw [List.filter_eq_self]
    intro x hx
    rw [decide_eq_true_eq]
    exact fun c => hn.1 (c ▸ List.mem_map_of_mem hx)
  | a :: l, j + 1, e, h, hn => by
    rw [List.map_cons, List.nodup_cons] at hn
    rw [List.getElem?_cons_succ] at h
    have hm := List.mem_of_getElem? h
    rw [List.eraseIdx_cons_succ, eraseIdx_filter f l j e h hn.2, List.filter_cons, if_pos]
    rw [decide_eq_true_eq]
    exact fun c => hn.1 (c ▸ List.mem_map_of_mem hm)

theorem idxK_at : ∀ (ks : List Int) (j : Nat) (r : Int), ks[j]? = some r → ks.Nodup → idxK ks r = some j
  | [], j, r, h, _ => by simp at h
  | a :: ks, 0, r, h, _ => by
    cases h
    unfold idxK
    rw [if_pos rfl]
  | a :: ks, j + 1, r, h, hn => by
    rw [List.nodup_cons] at hn
    rw [List.getElem?_cons_succ] at h
    have hm := List.mem_of_getElem? h
    unfold idxK
    have hne : ¬ a = r := fun c => hn.1 (by rw [c]; exact hm)
    rw [if_neg hne, idxK_at ks j r h hn.2]

/-- what is so of worlds while the loop goes on: nothing but the map and the loop's own record has changed -/
structure KeepR (w0 w : World) (bm bi : Nat) : Prop where
  os : w.os = w0.os
  tape : Tp w0 w
  output : w.output = w0.output
  size : w.heap.size = bi + 1
  block : ∀ b, b ≠ bm → b < bi → w.heap[b]? = w0.heap[b]?
theorem KeepR.cell {w0 w : World} {bm bi : Nat} (h : KeepR w0 w bm bi) (hbi : w0.heap.size = bi) {es : Array MapEntry} {clk : Nat} (hm : w0.heap[bm]? = some (.map es clk)) {b o : Nat} {x : Value} (hc : w0.cell? ⟨b, o, none⟩ = some x) : w.cell? ⟨b, o, none⟩ = some x := by
  have hb : b ≠ bm := fun e => by
    subst e
    simp [World.cell?, hm] at hc
  have hl : b < w0.heap.size := cell_lt hc
  rw [cell_same (h.block b hb (by omega))]; exact hc

section
variable {P : Program} (w : World) {ops : Array Oper} {rest : List Oper} {o : Oper} {a : Act} {Q : Exit → Act → World → Prop}
theorem wpList_range_rg (hg : o.guard = none) (m : Operand) (t : TypeId) (hop : o.op = Op.range t m) (k e : TypeId) (ht : P.underlying t = some (.map k e)) (b clk : Nat) (es : Array MapEntry) (hm : a.eval m = .map (some b)) (hb : w.heap[b]? = some (.map es clk))
    (hK : ∀ w', KeepR w w' b w.heap.size → w'.heap[w.heap.size]? = some (.mapIter (some b) clk #[] clk) → w'.heap[b]? = some (.map es clk) → wpList P ops Q rest (a.put o.dst (.pointer (some ⟨w.heap.size, 0, none⟩))) w') :
    wpList P ops Q (o :: rest) a w := by
  refine wpList_plain hg fun K' hK' => ?_
  have hrun := run_range_map (P := P) w t k e b es clk ht hb
  unfold Oper.wp
  simp [execOp, hop, hm, hrun, Result.andThen]
  have hlt : b < w.heap.size := (Array.getElem?_eq_some_iff.1 hb).1
  exact hK' _ _ (hK _ ⟨rfl, tp_rfl, rfl, by simp, fun c _ hc => heap_alloc_old _ _ hc⟩ (heap_alloc_new _ _) ((heap_alloc_old _ _ hlt).trans hb))
theorem wpList_next_rg (hg : o.guard = none) (it : Operand) (hop : o.op = Op.next it false) (bm bi clk : Nat) (seen : Array Nat) (es : Array MapEntry) (w0 : World) (hkp : KeepR w0 w bm bi)
    (hit : a.eval it = .pointer (some ⟨bi, 0, none⟩)) (hi : w.heap[bi]? = some (.mapIter (some bm) clk seen clk)) (hm : w.heap[bm]? = some (.map es clk)) (hold : ∀ x ∈ es.toList, x.born < clk) (hn : (es.toList.map (·.born)).Nodup)
    (hkv : ∀ e ∈ es.toList, ∃ r v : Int, e.key = .int .i64 r ∧ e.val = .int .i64 v)
    (hDone : (∀ x ∈ es.toList, seen.contains x.born = true) → wpList P ops Q rest (a.put o.dst (.tuple #[.bool false])) w)
    (hMore : ∀ (e : MapEntry) (r v : Int) (w' : World), e ∈ es.toList → e.key = .int .i64 r → e.val = .int .i64 v → seen.contains e.born = false → KeepR w0 w' bm bi → w'.heap[bi]? = some (.mapIter (some bm) clk (seen.push e.born) clk) → w'.heap[bm]? = some (.map es clk) →
      (Instr.entry (.pointer (some ⟨bi, 0, none⟩))).run P w' = .ok (.tuple #[.int .i64 r, .int .i64 v]) w' → wpList P ops Q rest (a.put o.dst (.tuple #[.bool true, .int .i64 r, .int .i64 v])) w') :
    wpList P ops Q (o :: rest) a w := by
  have hne : bi ≠ bm := fun e => by rw [e, hm] at hi; cases hi
  refine wpList_plain hg fun K' hK' => ?_
  unfold Oper.wp
  rcases run_next_at (P := P) w o.type bi bm clk clk seen es clk hi hm hold (Nat.le_refl _) with ⟨h0, hrun⟩ | ⟨e, he, w1, hw1, hrun⟩
  · simp [execOp, hop, hit, hrun, Result.andThen]
    refine hK' _ _ (hDone fun x hx => ?_)
    have h1 : (leftOf es seen).toList = [] := List.length_eq_zero_iff.1 (by rw [Array.length_toList]; exact h0)
    unfold leftOf at h1
    rw [Array.toList_filter, List.filter_eq_nil_iff] at h1
    simpa using h1 x hx
  · unfold leftOf at he
    rw [Array.toList_filter, List.mem_filter] at he
    obtain ⟨r, v, hr, hv⟩ := hkv e he.1
    have hs : seen.contains e.born = false := by simpa using he.2
    rw [hr, hv] at hrun
    simp [execOp, hop, hit, hrun, Result.andThen]
    have hbilt : bi < w.heap.size := (Array.getElem?_eq_some_iff.1 hi).1
    have hh : w1.heap = w.heap := by rcases hw1 with h | h <;> rw [h] <;> rfl
    have hx : w1.os = w.os ∧ Tp w w1 ∧ w1.output = w.output := by rcases hw1 with h | h <;> rw [h] <;> first | exact ⟨rfl, tp_rfl, rfl⟩ | exact ⟨rfl, ⟨rfl, Nat.le_succ _⟩, rfl⟩
    have e1 : (Go.ChangeMaps.setBlock w1 bi (.mapIter (some bm) clk (seen.push e.born) clk)).heap[bi]? = some (.mapIter (some bm) clk (seen.push e.born) clk) := by simp [Go.ChangeMaps.setBlock, hh, hbilt]
    have e2 : ∀ b, b ≠ bi → (Go.ChangeMaps.setBlock w1 bi (.mapIter (some bm) clk (seen.push e.born) clk)).heap[b]? = w.heap[b]? := fun b hb => by
      simp [Go.ChangeMaps.setBlock, hh, Array.getElem?_setIfInBounds, Ne.symm hb]
    refine hK' _ _ (hMore e r v _ he.1 hr hv hs ⟨hx.1.trans hkp.os, hkp.tape.trans hx.2.1, hx.2.2.trans hkp.output, ?_, fun b hb hl => (e2 b (Nat.ne_of_lt hl)).trans (hkp.block b hb hl)⟩ e1 ((e2 bm hne.symm).trans hm) ?_)
    · simp [Go.ChangeMaps.setBlock, hh, hkp.size]
    · rw [← hr, ← hv]
      exact run_entry_at _ bi bm clk seen es clk e e1 ((e2 bm hne.symm).trans hm) he.1 hn
theorem wpList_delete_rg (hg : o.guard = none) (m x : Operand) (t k : TypeId) (hop : o.op = Op.call { callee := Callee.builtin Builtin.delete, args := #[m, x], argTypes := #[t, k] })
    (et : TypeId) (ht : P.underlying t = some (.map k et)) (hk : P.underlying k = some (.int .i64)) (bm bi clk : Nat) (es : Array MapEntry) (w0 : World) (hkp : KeepR w0 w bm bi)
    (hmv : a.eval m = .map (some bm)) (e : MapEntry) (r : Int) (hx : a.eval x = .int .i64 r) (he : e ∈ es.toList) (her : e.key = .int .i64 r) (seen : Array Nat) (hi : w.heap[bi]? = some (.mapIter (some bm) clk seen clk)) (hm : w.heap[bm]? = some (.map es clk))
    (hn : (es.toList.map (·.born)).Nodup) (hkn : (es.toList.map (·.key)).Nodup) (hkv : ∀ e ∈ es.toList, ∃ r v : Int, e.key = .int .i64 r ∧ e.val = .int .i64 v)
    (hK : ∀ (w' : World) (es' : Array MapEntry), KeepR w0 w' bm bi → w'.heap[bi]? = some (.mapIter (some bm) clk seen clk) → w'.heap[bm]? = some (.map es' clk) → es'.toList = es.toList.filter (fun x => decide (x.born ≠ e.born)) → wpList P ops Q rest (a.put o.dst (.tuple #[])) w') :
    wpList P ops Q (o :: rest) a w := by
  have hne : bi ≠ bm := fun e => by rw [e, hm] at hi; cases hi
  obtain ⟨ks, hks⟩ : ∃ ks : List Int, es.toList.map (·.key) = ks.map (fun n => Value.int .i64 n) := by
    clear hkn hn he hm
    generalize es.toList = l at hkv
    induction l with
    | nil => exact ⟨[], rfl⟩
    | cons y l ih =>
      obtain ⟨ks, h⟩ := ih fun e he => hkv e (List.mem_cons_of_mem _ he)
      obtain ⟨r, v, h1, h2⟩ := hkv y List.mem_cons_self
      exact ⟨r :: ks, by rw [List.map_cons, List.map_cons, h, h1]⟩
  obtain ⟨kt, et', hu, hcheck, hfind, hstay, hat⟩ := keyx_int (P := P) ht hk ks r
  have hfi := hfind w es.toList hks
  obtain ⟨j, hj⟩ : ∃ j, es.toList[j]? = some e := List.getElem?_of_mem he
  have hix : idxK ks r = some j := by
    have hkr : ks[j]? = some r := by
      have := congrArg (·[j]?) hks
      simp only [List.getElem?_map, hj, Option.map_some, her] at this
      cases hq : ks[j]? with
      | none => rw [hq] at this; cases this
      | some q => rw [hq] at this; cases this; rfl
    have hnk : ks.Nodup := by
      rw [hks] at hkn
      exact List.Pairwise.of_map _ (fun a b h c => h (by rw [c])) hkn
    exact idxK_at ks j r hkr hnk
  have hjl : j < es.size := by rw [← Array.length_toList]; exact (List.getElem?_eq_some_iff.1 hj).1
  rw [hix, Option.bind_some, hj] at hfi
  have el : (es.eraseIdxIfInBounds j).toList = es.toList.eraseIdx j := by
    unfold Array.eraseIdxIfInBounds
    rw [dif_pos hjl, Array.toList_eraseIdx]
  have hrun : ∀ ty, (Builtin.delete_ #[t, k] ty #[.map (some bm), .int .i64 r]).run P w = .ok (.tuple #[]) { w with heap := w.heap.setIfInBounds bm (.map (es.eraseIdxIfInBounds j) clk) } := fun ty => by
    simp [Builtin.delete_, run_underlying hu, getObj, setObj, Sem.run, hm, hcheck, hfi, Result.andThen]
  refine wpList_plain hg fun K' hK' => ?_
  unfold Oper.wp
  simp [execOp, hop, resolve, invoke, builtin, hmv, hx, hrun, Result.andThen]
  have hml : bm < w.heap.size := (Array.getElem?_eq_some_iff.1 hm).1
  refine hK' _ _ (hK _ (es.eraseIdxIfInBounds j) ⟨hkp.os, hkp.tape, hkp.output, by simpa using hkp.size, fun b hb hl => ?_⟩ ?_ ?_ ?_)
  · show (w.heap.setIfInBounds bm _)[b]? = _
    rw [Array.getElem?_setIfInBounds_ne (Ne.symm hb)]
    exact hkp.block b hb hl
  · show (w.heap.setIfInBounds bm _)[bi]? = _
    rw [Array.getElem?_setIfInBounds_ne hne.symm]
    exact hi
  · show (w.heap.setIfInBounds bm _)[bm]? = _
    rw [Array.getElem?_setIfInBounds_self_of_lt hml]
  · rw [el, eraseIdx_filter (·.born) _ j e hj hn]
end

/-- is an entry's value read by nobody behind n? -/
def deadR (L : List Int) (n : Int) (e : MapEntry) : Bool := match e.val with
  | .int _ v => decide (L.getD v.toNat 0 ≤ n)
  | _ => false
def leftR (es : List MapEntry) (L : List Int) (n : Int) (seen : Array Nat) : List MapEntry := es.filter fun e => !(seen.contains e.born && deadR L n e)
theorem contains_push (s : Array Nat) (b x : Nat) : (s.push b).contains x = (s.contains x || decide (x = b)) := by
  by_cases h : x = b <;> simp [h]
theorem leftR_struck {es : List MapEntry} {L : List Int} {n : Int} {seen : Array Nat} {e : MapEntry} (hn : (es.map (·.born)).Nodup) (he : e ∈ es) (hd : deadR L n e = true) :
    (leftR es L n seen).filter (fun x => decide (x.born ≠ e.born)) = leftR es L n (seen.push e.born) := by
  unfold leftR
  rw [List.filter_filter]
  refine List.filter_congr fun x hx => ?_
  rw [contains_push]
  by_cases c : x.born = e.born
  · have : x = e := by
      obtain ⟨i, hi, rfl⟩ := List.getElem_of_mem hx
      obtain ⟨k, hk, rfl⟩ := List.getElem_of_mem he
      have h1 := List.nodup_iff_pairwise_ne.1 hn
      rw [List.pairwise_map] at h1
      rcases Nat.lt_trichotomy i k with g | g | g
      · exact absurd c (List.pairwise_iff_getElem.1 h1 i k hi hk g)
      · subst g; rfl
      · exact absurd c.symm (List.pairwise_iff_getElem.1 h1 k i hk hi g)
    subst this
    simp [hd]
  · simp [c]
theorem leftR_stays {es : List MapEntry} {L : List Int} {n : Int} {seen : Array Nat} {e : MapEntry} (hn : (es.map (·.born)).Nodup) (he : e ∈ es) (hd : deadR L n e = false) :
    leftR es L n seen = leftR es L n (seen.push e.born) := by
  unfold leftR
  refine List.filter_congr fun x hx => ?_
  rw [contains_push]
  by_cases c : x.born = e.born
  · have : x = e := by
      obtain ⟨i, hi, rfl⟩ := List.getElem_of_mem hx
      obtain ⟨k, hk, rfl⟩ := List.getElem_of_mem he
      have h1 := List.nodup_iff_pairwise_ne.1 hn
      rw [List.pairwise_map] at h1
      rcases Nat.lt_trichotomy i k with g | g | g
      · exact absurd c (List.pairwise_iff_getElem.1 h1 i k hi hk g)
      · subst g; rfl
      · exact absurd c.symm (List.pairwise_iff_getElem.1 h1 k i hk hi g)
    subst this
    simp [hd]
  · simp [c]
theorem leftR_end {es : List MapEntry} {L : List Int} {n : Int} {seen : Array Nat} (h : ∀ x ∈ leftR es L n seen, seen.contains x.born = true) : leftR es L n seen = es.filter fun e => !deadR L n e := by
  unfold leftR at h ⊢
  refine List.filter_congr fun x hx => ?_
  cases hd : deadR L n x with
  | false => simp
  | true =>
    cases hs : seen.contains x.born with
    | true => rfl
    | false =>
      have := h x (List.mem_filter.2 ⟨hx, by rw [hs]; rfl⟩)
      rw [hs] at this; cases this
theorem leftR_start (es : List MapEntry) (L : List Int) (n : Int) : leftR es L n #[] = es := by
  unfold leftR
  rw [List.filter_eq_self]
  intro x _
  simp

/-- how many are still to come -/
def toCome (es : List MapEntry) (bi : Nat) (w : World) : Nat := match w.heap[bi]? with
  | some (.mapIter _ _ seen _) => (es.filter fun e => !seen.contains e.born).length
  | _ => 0
theorem toCome_less {es : List MapEntry} {seen : Array Nat} {e : MapEntry} (he : e ∈ es) (hs : seen.contains e.born = false) :
    (es.filter fun x => !(seen.push e.born).contains x.born).length < (es.filter fun x => !seen.contains x.born).length := by
  have h1 : (es.filter fun x => !(seen.push e.born).contains x.born) = (es.filter fun x => !seen.contains x.born).filter fun x => decide (x.born ≠ e.born) := by
    rw [List.filter_filter]
    refine List.filter_congr fun x _ => ?_
    rw [contains_push]
    by_cases c : x.born = e.born <;> simp [c]
  rw [h1]
  refine Nat.lt_of_le_of_ne (List.length_filter_le _ _) fun h => ?_
  rw [List.length_filter_eq_length_iff] at h
  have := h e (List.mem_filter.2 ⟨he, by rw [hs]; rfl⟩)
  simp at this

set_option maxHeartbeats 4000000 in
set_option maxRecDepth 1000000 in
theorem release_walk (bp bm : Nat) (es : Array MapEntry) (clk : Nat) (L : List Int) (la : Option Addr) (cap : Nat) (n : Int) (w : World)
    (hp : w.cell? ⟨bp, 0, none⟩ = some (.map (some bm))) (hm : w.heap[bm]? = some (.map es clk)) (hb : BornUp es clk)
    (hk : ∀ e ∈ es.toList, ∃ r v : Int, e.key = .int .i64 r ∧ e.val = .int .i64 v ∧ 0 ≤ v ∧ v.toNat < L.length)
    (hkn : (es.toList.map (·.key)).Nodup)
    (hl : ∀ (i : Nat) (x : Int), L[i]? = some x → ∃ b o, la = some ⟨b, o, none⟩ ∧ w.cell? ⟨b, o + i, none⟩ = some (.int .i64 x)) :
    Calls Tryz.prog 104 #[.pointer (some ⟨bp, 0, none⟩), .slice la L.length cap, .int .i64 n] w fun e w' =>
      e = .returned (.tuple #[]) ∧ KeepR w w' bm w.heap.size ∧ ∃ es' : Array MapEntry, w'.heap[bm]? = some (.map es' clk) ∧ es'.toList = es.toList.filter fun e => !deadR L n e := by
  have hnd : (es.toList.map (·.born)).Nodup := List.Pairwise.map _ (fun e f h => Nat.ne_of_lt h) hb.1
  go_enter Tryz.func104, Tryz.ntmps104
  go_wp2_with (first
    | (at_range; refine wpList_range_rg _ rfl _ 177 rfl 3 3 Tryz.underlying177 bm clk es rfl hm ?_; intro w0 hkp0 hi0 hm0)
    | go_in)
  go_frame
  go_loopw [6, 7] (fun _ _ wr => ∃ (seen : Array Nat) (es' : Array MapEntry), KeepR w wr bm w.heap.size ∧ wr.heap[w.heap.size]? = some (.mapIter (some bm) clk seen clk) ∧ wr.heap[bm]? = some (.map es' clk) ∧ leftR es.toList L n seen = es'.toList)
    (fun _ _ wr => toCome es.toList w.heap.size wr)
  case atStart => exact ⟨#[], es, hkp0, hi0, hm0, leftR_start _ _ _⟩
  case round =>
    obtain ⟨seen, es1, hkp, hi, hm1, hes⟩ := hrel
    have hsub : ∀ x, x ∈ es1.toList → x ∈ es.toList := fun x hx => by rw [← hes] at hx; exact (List.mem_filter.1 hx).1
    have hsl : es1.toList.Sublist es.toList := by rw [← hes]; exact List.filter_sublist
    have hnd1 : (es1.toList.map (·.born)).Nodup := List.Sublist.nodup (hsl.map _) hnd
    have hkn1 : (es1.toList.map (·.key)).Nodup := List.Sublist.nodup (hsl.map _) hkn
    have hkv1 : ∀ e ∈ es1.toList, ∃ r v : Int, e.key = .int .i64 r ∧ e.val = .int .i64 v := fun e he => by
      obtain ⟨r, v, h1, h2, _⟩ := hk e (hsub e he); exact ⟨r, v, h1, h2⟩
    go_wp2_with (first
      | (at_next; refine wpList_next_rg _ rfl _ rfl bm w.heap.size clk seen es1 w hkp rfl hi hm1 (fun x hx => hb.2 x (hsub x hx)) hnd1 hkv1 ?_ ?_)
      | go_in)
    · intro hall
      go_wp2
      go_end0
      exact ⟨rfl, hkp, es1, hm1, by rw [← hes]; exact leftR_end fun x hx => by rw [hes] at hx; have := hall x (by simpa using hx); simpa using this⟩
    · intro e r v w1 he0 her hev hseen hkp1 hi1 hm1' hen
      have he : e ∈ es1.toList := by simpa using he0
      have hin := hsub e he
      have hseen : seen.contains e.born = false := by simpa using hseen
      obtain ⟨r', v', h1, h2, h3, h4⟩ := hk e hin
      rw [hev] at h2
      cases h2
      clear h1
      obtain ⟨b, o, hla, hc⟩ := hl v.toNat L[v.toNat] (List.getElem?_eq_getElem h4)
      subst hla
      have hc1 := hkp1.cell rfl hm hc
      have hp1 := hkp1.cell rfl hm hp
      have hvlt : v < (L.length : Int) := by omega
      have hdead : deadR L n e = decide (L[v.toNat] ≤ n) := by
        unfold deadR; rw [hev]; simp only; rw [List.getD_eq_getElem?_getD, List.getElem?_eq_getElem h4]; rfl
      go_wp2_with (first
        | (at_delete; refine wpList_delete_rg _ rfl _ _ 177 3 rfl 3 Tryz.underlying177 Tryz.underlying3 bm w.heap.size clk es1 w hkp1 rfl e r rfl he her (seen.push e.born) hi1 hm1' hnd1 hkn1 hkv1 ?_; intro w2 es2 hkp2 hi2 hm2 hes2; go_frame)
        | go_in)
      · have hd : deadR L n e = true := by rw [hdead]; exact decide_eq_true (by assumption)
        go_roundw
        case rel => exact ⟨seen.push e.born, es2, hkp2, hi2, hm2, by rw [hes2, ← hes]; exact (leftR_struck hnd hin hd).symm⟩
        case measure => simp only [toCome, hi, hi2]; exact toCome_less hin hseen
      · have hd : deadR L n e = false := by rw [hdead]; exact decide_eq_false (by omega)
        go_roundw
        case rel => exact ⟨seen.push e.born, es1, hkp1, hi1, hm1', by rw [← hes]; exact (leftR_stays hnd hin hd).symm⟩
        case measure => simp only [toCome, hi, hi1]; exact toCome_less hin hseen

theorem filter_both {α β : Type} (p : α → Bool) (q : β → Bool) : ∀ (l : List α) (m : List β), l.length = m.length → (∀ (i : Nat) a b, l[i]? = some a → m[i]? = some b → p a = q b) →
    (l.filter p).length = (m.filter q).length ∧ ∀ (i : Nat) a b, (l.filter p)[i]? = some a → (m.filter q)[i]? = some b → ∃ j : Nat, l[j]? = some a ∧ m[j]? = some b
  | [], [], _, _ => ⟨rfl, fun i a b h => by simp at h⟩
  | [], _ :: _, h, _ => by cases h
  | _ :: _, [], h, _ => by cases h
  | a :: l, b :: m, h, hpq => by
    have h0 := hpq 0 a b rfl rfl
    obtain ⟨e1, e2⟩ := filter_both p q l m (by simpa using h) fun i x y hx hy => hpq (i + 1) x y hx hy
    rw [List.filter_cons, List.filter_cons, h0]
    cases q b with
    | false =>
      rw [if_neg (by decide), if_neg (by decide)]
      exact ⟨e1, fun i x y hx hy => by obtain ⟨j, h1, h2⟩ := e2 i x y hx hy; exact ⟨j + 1, h1, h2⟩⟩
    | true =>
      rw [if_pos rfl, if_pos rfl]
      refine ⟨by rw [List.length_cons, List.length_cons, e1], fun i x y hx hy => ?_⟩
      cases i with
      | zero => exact ⟨0, hx, hy⟩
      | succ i => obtain ⟨j, h1, h2⟩ := e2 i x y hx hy; exact ⟨j + 1, h1, h2⟩

namespace M
def regs_release (many : Int) (o0 : List (Int × Int)) (last : List Int) (n : Int) : Option (List (Int × Int)) :=
  bif (o0.all fun x => decide (0 ≤ x.2) && decide (x.2.toNat < last.length)) && decide ((o0.map (·.1)).Nodup) then some (o0.filter fun x => decide (n < last.getD x.2.toNat 0)) else none
theorem regs_release_ok (many : Int) (o0 : List (Int × Int)) (last : List Int) (n : Int) : ∀ r, regs_release many o0 last n = some r →
    ACallsD Tryz.prog 104 2 [.ptr 0 0 0, SL (cI .i64) last, I n] [(0, BOX [.map 1, I many]), (1, MAP false (fun n => Value.int .i64 n) (cI .i64) o0)] (.tup []) [(0, BOX [.map 1, I many]), (1, MAP false (fun n => Value.int .i64 n) (cI .i64) r)] := by
  intro r h
  unfold regs_release at h
  cases hc : ((o0.all fun x => decide (0 ≤ x.2) && decide (x.2.toNat < last.length)) && decide ((o0.map (·.1)).Nodup)) with
  | false => rw [hc] at h; cases h
  | true =>
    rw [hc] at h
    simp only [cond_true, Option.some.injEq] at h
    subst h
    rw [Bool.and_eq_true, decide_eq_true_eq, List.all_eq_true] at hc
    obtain ⟨hin, hno⟩ := hc
    intro F w ι vs hp
    obtain ⟨v0, v1, v2, rfl⟩ : ∃ v0 v1 v2, vs = #[v0, v1, v2] := by
      have := hp.n
      cases vs with
      | mk vl => match vl, this with
        | [x, y, z], _ => exact ⟨x, y, z, rfl⟩
    have h0 := hp.arg 0 v0 _ rfl rfl
    have h1 := hp.arg 1 v1 _ rfl rfl
    have h2 := hp.arg 2 v2 _ rfl rfl
    have e2 : v2 = .int .i64 n := by
      cases h2 with | d h => cases h with | v x h => rfl
    subst e2
    obtain ⟨hpl, C, cty, k1, k2, k3, k4⟩ := hp.obj 0 _ rfl
    obtain ⟨hml, es, clk, m1, m2, m3, m4⟩ := hp.obj 1 _ rfl
    have e0 : v0 = .pointer (some ⟨(ι 0).b, 0, none⟩) := by
      generalize hv : v0 = v at h0
      cases h0 with
      | ptr => rw [k2]; simp
    subst e0
    have hC0 : C[0]? = some (.map (some (ι 1).b)) := by
      have hlt : 0 < C.size := by rw [k3]; exact Nat.zero_lt_succ _
      rw [Array.getElem?_eq_getElem hlt]
      have := k4 0 C[0] _ (Array.getElem?_eq_getElem hlt) rfl
      generalize C[0] = x at this ⊢
      cases this
      rfl
    have hne : (ι 0).b ≠ (ι 1).b := fun e => by
      have := hp.apart 0 1 _ _ rfl rfl e
      cases this
    have hlen : es.toList.length = o0.length := by rw [Array.length_toList, m2]; simp [mapE]
    have hat : ∀ (i : Nat) (e : MapEntry) (x : Int × Int), es.toList[i]? = some e → o0[i]? = some x → e.key = .int .i64 x.1 ∧ e.val = .int .i64 x.2 := fun i e x he hx => by
      rw [Array.getElem?_toList] at he
      obtain ⟨q1, q2⟩ := m4 i e (.int .i64 x.1, dV false (cI .i64 x.2)) he (by simp [mapE, hx])
      refine ⟨q1, ?_⟩
      have q3 : RD w (Im F _ ι) e.val (.v (.int .i64 x.2)) := q2
      generalize e.val = z at q3 ⊢
      cases q3
      rfl
    have hpair : ∀ e ∈ es.toList, ∃ x ∈ o0, e.key = .int .i64 x.1 ∧ e.val = .int .i64 x.2 := fun e he => by
      obtain ⟨i, hi, rfl⟩ := List.getElem_of_mem he
      have hi' : i < o0.length := by omega
      exact ⟨o0[i], List.getElem_mem hi', hat i _ _ (List.getElem?_eq_getElem hi) (List.getElem?_eq_getElem hi')⟩
    obtain ⟨la, cap, hv1, hl⟩ : ∃ la cap, v1 = .slice la last.length cap ∧ ∀ (i : Nat) (x : Int), last[i]? = some x → ∃ b o, la = some ⟨b, o, none⟩ ∧ w.cell? ⟨b, o + i, none⟩ = some (.int .i64 x) := by
      cases h1 with
      | d h =>
        rcases rd_sl h with ⟨b, off, sz, cap, f, e, hcap, hsz, hce, hr⟩ | ⟨a, cap, e, hz⟩
        · refine ⟨_, cap, by rw [e, List.length_map], fun i x hx => ⟨b, off, rfl, ?_⟩⟩
          have hxi : (last.map (cI .i64))[i]? = some (cI .i64 x) := by rw [List.getElem?_map, hx]; rfl
          have s1 : sz = 1 := (hsz i _ hxi).symm
          obtain ⟨c1, _⟩ := hce i 0 _ (.v (.int .i64 x)) hxi rfl
          have c2 := hr i 0 _ (.v (.int .i64 x)) hxi rfl
          rw [s1, Nat.mul_one, Nat.add_zero] at c1
          rw [c1]
          generalize f i 0 = z at c2 ⊢
          cases c2
          rfl
        · have : last = [] := by simpa using hz
          subst this
          exact ⟨a, cap, e, fun i x hx => by simp at hx⟩
    subst hv1
    have hkn : (es.toList.map (·.key)).Nodup := by
      have : es.toList.map (·.key) = (o0.map (·.1)).map (fun n => Value.int .i64 n) := by
        refine List.ext_getElem (by simp [hlen]) fun i h1 h2 => ?_
        simp only [List.length_map] at h1 h2
        simp only [List.getElem_map]
        exact (hat i _ _ (List.getElem?_eq_getElem h1) (List.getElem?_eq_getElem (by omega))).1
      rw [this]
      exact List.Pairwise.map _ (fun a b h c => h (by cases c; rfl)) hno
    have hdead : ∀ (i : Nat) (e : MapEntry) (x : Int × Int), es.toList[i]? = some e → o0[i]? = some x → (!deadR last n e) = decide (n < last.getD x.2.toNat 0) := fun i e x he hx => by
      unfold deadR
      rw [(hat i e x he hx).2]
      simp only
      by_cases c : last.getD x.2.toNat 0 ≤ n
      · rw [decide_eq_true c, decide_eq_false (by omega)]; rfl
      · rw [decide_eq_false c, decide_eq_true (by omega)]; rfl
    obtain ⟨f1, f2⟩ := filter_both _ _ _ _ hlen hdead
    refine (release_walk (ι 0).b (ι 1).b es clk last la cap n w (by simp [World.cell?, k1, hC0]) m1 m3 (fun e he => ?_) hkn hl).mono fun e w' hw => ?_
    · obtain ⟨x, hx, q1, q2⟩ := hpair e he
      have := hin x hx
      rw [Bool.and_eq_true, decide_eq_true_eq, decide_eq_true_eq] at this
      exact ⟨x.1, x.2, q1, q2, this.1, this.2⟩
    · obtain ⟨rfl, hk, es', n1, n2⟩ := hw
      have hget : ∀ k o, getH [(0, BOX [.map 1, I many]), (1, MAP false (fun n => Value.int .i64 n) (cI .i64) (o0.filter fun x => decide (n < last.getD x.2.toNat 0)))] k = some o →
          (k = 0 ∧ some o = BOX [.map 1, I many]) ∨ (k = 1 ∧ some o = MAP false (fun n => Value.int .i64 n) (cI .i64) (o0.filter fun x => decide (n < last.getD x.2.toNat 0))) := fun k o h => by
        rw [getH_cons] at h
        split at h
        · rename_i e; exact .inl ⟨e.symm, h.symm⟩
        · rw [getH_cons] at h
          split at h
          · rename_i e; exact .inr ⟨e.symm, h.symm⟩
          · cases h
      refine ⟨.tuple #[], _, _, ι, rfl, ⟨rfl, rfl⟩, ⟨.tup #[] [] rfl fun i v x hv => by simp at hv, fun k o h => ?_, fun k k' o o' h h' e => ?_, ⟨hk.os, hk.tape, hk.output, by rw [hk.size]; omega, fun b o x hx hm => hk.cell rfl m1 hx, fun b hb hm => hk.block b (fun e => hm 0 ⟨1, _, rfl, e.symm, Nat.zero_le _⟩) hb⟩, fun b o hm => .inr ?_, fun k _ => rfl, fun k o h => ?_⟩⟩
      · rcases hget k o h with ⟨rfl, ho⟩ | ⟨rfl, ho⟩
        · cases ho
          refine ⟨by rw [hk.size]; omega, C, cty, (hk.block _ hne hpl).trans k1, k2, k3, fun i v a hv ha => ?_⟩
          match i, ha with
          | 0, ha =>
            cases ha
            rw [hC0] at hv
            cases hv
            exact .map 1
          | 1, ha =>
            cases ha
            have := k4 1 v _ hv rfl
            cases this with
            | d h => cases h with | v x h => exact .d (.v _ rfl)
          | i + 2, ha => simp at ha
        · cases ho
          refine ⟨by rw [hk.size]; omega, es', clk, n1, ?_, ⟨?_, ?_⟩, fun i e x he hx => ?_⟩
          · rw [← Array.length_toList, n2, f1]; simp [mapE]
          · rw [n2]; exact List.Pairwise.sublist List.filter_sublist m3.1
          · intro e he
            rw [n2] at he
            exact m3.2 e (List.mem_filter.1 he).1
          · rw [← Array.getElem?_toList, n2] at he
            have hx' : ∃ y, (o0.filter fun x => decide (n < last.getD x.2.toNat 0))[i]? = some y ∧ x = (.int .i64 y.1, dV false (cI .i64 y.2)) := by
              simp only [mapE, List.getElem?_map, Option.map_eq_some_iff] at hx
              obtain ⟨y, y1, y2⟩ := hx
              exact ⟨y, y1, y2.symm⟩
            obtain ⟨y, y1, rfl⟩ := hx'
            obtain ⟨j, j1, j2⟩ := f2 i e y he y1
            obtain ⟨q1, q2⟩ := hat j e y j1 j2
            refine ⟨q1, ?_⟩
            rw [q2]
            exact .v _ rfl
      · rcases hget k o h with ⟨rfl, _⟩ | ⟨rfl, _⟩ <;> rcases hget k' o' h' with ⟨rfl, _⟩ | ⟨rfl, _⟩
        · rfl
        · exact absurd e hne
        · exact absurd e.symm hne
        · rfl
      · obtain ⟨k, ob, g1, g2, g3⟩ := hm
        rcases hget k ob g1 with ⟨rfl, ho⟩ | ⟨rfl, ho⟩
        · exact ⟨0, _, rfl, g2, by cases ho; exact g3⟩
        · exact ⟨1, _, rfl, g2, by cases ho; exact g3⟩
      · rcases hget k o h with ⟨rfl, _⟩ | ⟨rfl, _⟩
        · exact hp.apartF 0 _ rfl
        · exact hp.apartF 1 _ rfl
end M
end Go.Ab
end
