/-
  TEXTS PUT TOGETHER: JoL, PlGreedy, OrGreedyF.
-/
import Derived.Test.YtgefhpoejihneaaTC
import Derived.Test.YtgefhpoejihneaaPE
import Derived.Test.YtgefhpoejihneaaPB
section
/-
  ARGUMENTS AS TYPED DATA (printed by jot.py).
-/
namespace Go.Ab.M
open Go.Proofs Go.Proofs.Ytgefhpoejihneaa
set_option linter.unusedVariables false
def tyLink : Ty Try.prog 93 := Ty.as (Ty.struct Try.underlying93 (Flds.cons (Ty.int .u8 Try.underlying5) rfl 1 (by kernel_rfl) (Flds.cons (Ty.int .u8 Try.underlying5) rfl 1 (by kernel_rfl) (Flds.cons (Ty.int .i8 Try.underlying85) rfl 1 (by kernel_rfl) (Flds.last (Ty.int .u8 Try.underlying5) rfl (by kernel_rfl))))))
  (fun y => Link.mk y.1 y.2.1 y.2.2.1 y.2.2.2) Link.D (fun y => inRange .u8 y.From ∧ inRange .u8 y.To ∧ inRange .i8 y.N ∧ inRange .u8 y.D_) (fun _ => 0) (fun _ => rfl) (fun _ h => h) (fun _ => Nat.zero_le _)
end Go.Ab.M
end

section
/-
  PLAIN LAW: NONE THAT IS LEFT COSTS LESS THAN THE ONE THAT IS TAKEN.
-/
namespace Go.Ab.M
set_option linter.unusedVariables false
set_option linter.unusedSimpArgs false

/-- the state of the walk through an order by a rule: the shape, those that are left -/
structure GrSt (b : Bool) (o : List Int) (n0 : Nat) (i : Nat) (s : Shape) (m : List Int) : Prop where
  tail : o.drop i = greedyP b m.length s m
  right : s.right = true
  sorted : m.Pairwise (· < ·)
  mid : ∀ v ∈ m, s.isMid v = true
  len : s.All.length ≤ 1000
  n : s.n = n0
theorem drop_all {o : List Int} {i : Nat} (h : i < o.length) : nth o i = nth (o.drop i) 0 := by
  rw [drop_nth h]; rfl
theorem GrSt.next {b : Bool} {o : List Int} {n0 i : Nat} {s : Shape} {m : List Int} (h : GrSt b o n0 i s m) (hn : n0 * n0 ≤ 1000) (hi : i < o.length) :
    ∃ m', GrSt b o n0 (i + 1) (s.next (nth o i)).1 m' ∧ s.isMid (nth o i) = true ∧ ∀ k, i ≤ k → k < o.length → s.tell b (nth o i) ≤ s.tell b (nth o k) ∧ (nth o k < nth o i → s.tell b (nth o i) < s.tell b (nth o k)) := by
  have hd := h.tail
  have hlen : (o.drop i).length = m.length := by rw [hd, greedyP_len]
  rw [List.length_drop] at hlen
  obtain ⟨k, hk⟩ : ∃ k, m.length = k + 1 := ⟨m.length - 1, by omega⟩
  have hat := atMin_lt (f := s.tell b) (m := m) (by omega)
  have hl := atMin_least (f := s.tell b) (m := m) (by omega) h.sorted
  rw [hk] at hd
  simp only [greedyP] at hd
  have hv : nth o i = nth m (atMin (s.tell b) m) := by rw [drop_all hi, hd]; rfl
  have hmid : s.isMid (nth o i) = true := by rw [hv]; exact h.mid _ hl.1
  have ht : o.drop (i + 1) = greedyP b k (s.next (nth o i)).1 (m.eraseIdx (atMin (s.tell b) m)) := by
    rw [drop_nth hi, List.cons.injEq] at hd
    rw [hd.2, hv]
  obtain ⟨x1, x2, x3, x4, x5⟩ := next_n h.right hmid
  have hel : (m.eraseIdx (atMin (s.tell b) m)).length = k := by rw [List.length_eraseIdx, if_pos hat]; omega
  refine ⟨m.eraseIdx (atMin (s.tell b) m), ⟨by rw [hel]; exact ht, next_right h.right hmid, ?_, ?_, ?_, ?_⟩, hmid, ?_⟩
  · exact h.sorted.sublist (List.eraseIdx_sublist _ _)
  · intro v hv
    have := h.mid v ((List.eraseIdx_sublist _ _).subset hv)
    simp only [Shape.isMid] at this ⊢
    rw [x2, x3]; exact this
  · rw [h.n] at x5; omega
  · rw [x1]; exact h.n
  · intro j hj hj2
    have hm : nth o j ∈ m := by
      have h1 : nth o j ∈ o.drop i := by
        have : nth o j = nth (o.drop i) (j - i) := by
          simp only [nth, List.getD, List.getElem?_drop, show i + (j - i) = j by omega]
        rw [this]
        exact nth_mem (by rw [List.length_drop]; omega)
      rw [h.tail] at h1
      exact (greedyP_perm b m.length s m rfl).mem_iff.1 h1
    rw [hv]
    exact hl.2 _ hm
theorem tell_true (s : Shape) (v : Int) : s.fill v = s.tell true v := rfl
theorem tell_false (s : Shape) (v : Int) : s.cost v = s.tell false v := rfl
theorem shape_eta (s : Shape) : Shape.mk s.Ins s.Mids s.Outs s.All = s := rfl
/-- the look at those that are left -/
theorem greedy_in (x0 : Bool) (b : Bool) {o : List Int} {n0 i : Nat} {s : Shape} {m : List Int} (h : GrSt b o n0 i s m) (hn : n0 * n0 ≤ 1000) (hi : i < o.length) (ho : o.length ≤ 1000) :
    law23_OrderGreedy_l_2 b x0 o i s.Ins s.Mids s.Outs s.All i = some (.inr ()) ∧ law23_OrderGreedy_l_4 b x0 o i s.Ins s.Mids s.Outs s.All i = some (.inr ()) := by
  obtain ⟨m', -, -, hall⟩ := h.next hn hi
  have rd2 : ∀ k, i ≤ k → k < o.length → law23_OrderGreedy_l_2_rd b x0 o i s.Ins s.Mids s.Outs s.All k = some (.inl (k + 1)) := by
    intro k hk hk2
    obtain ⟨a1, a2⟩ := hall k hk hk2
    simp (disch := omega) only [law23_OrderGreedy_l_2_rd, shape_Cost_eq (s := s) (by have := h.len; omega), shape_Fill_eq (s := s) h.len, Bool.cond_decide, if_t, inK_i64, cond_true, Option.bind_some]
    rw [tell_true, tell_true, tell_false, tell_false]
    cases b with
    | true =>
      simp only [cond_true]
      rw [if_neg (by omega)]
      by_cases e : s.tell true (nth o k) = s.tell true (nth o i)
      · rw [e, BEq.rfl, cond_true, if_neg (fun q => by have := a2 q; omega)]
      · rw [show (s.tell true (nth o k) == s.tell true (nth o i)) = false by simpa using e, cond_false]
    | false =>
      simp only [cond_false]
      rw [if_neg (by omega)]
      by_cases e : s.tell false (nth o k) = s.tell false (nth o i)
      · rw [e, BEq.rfl, cond_true, if_neg (fun q => by have := a2 q; omega)]
      · rw [show (s.tell false (nth o k) == s.tell false (nth o i)) = false by simpa using e, cond_false]
  have rd4 : ∀ k, i ≤ k → k < o.length → law23_OrderGreedy_l_4_rd b x0 o i s.Ins s.Mids s.Outs s.All k = some (.inl (k + 1)) := by
    intro k hk hk2
    obtain ⟨a1, a2⟩ := hall k hk hk2
    simp (disch := omega) only [law23_OrderGreedy_l_4_rd, shape_Cost_eq (s := s) (by have := h.len; omega), shape_Fill_eq (s := s) h.len, Bool.cond_decide, if_t, inK_i64, cond_true, Option.bind_some]
    rw [tell_true, tell_true, tell_false, tell_false]
    cases b with
    | true =>
      simp only [cond_true]
      rw [if_neg (by omega)]
      by_cases e : s.tell true (nth o k) = s.tell true (nth o i)
      · rw [e, BEq.rfl, cond_true, if_neg (fun q => by have := a2 q; omega)]
      · rw [show (s.tell true (nth o k) == s.tell true (nth o i)) = false by simpa using e, cond_false]
    | false =>
      simp only [cond_false]
      rw [if_neg (by omega)]
      by_cases e : s.tell false (nth o k) = s.tell false (nth o i)
      · rw [e, BEq.rfl, cond_true, if_neg (fun q => by have := a2 q; omega)]
      · rw [show (s.tell false (nth o k) == s.tell false (nth o i)) = false by simpa using e, cond_false]
  constructor
  · unfold law23_OrderGreedy_l_2
    exact loop_from (round := fun σ : Nat => law23_OrderGreedy_l_2_rd b x0 o i s.Ins s.Mids s.Outs s.All σ) (fun k => k) i o.length (Nat.le_of_lt hi) rd2 (by simp [law23_OrderGreedy_l_2_rd]) (by simp only [FU]; omega)
  · unfold law23_OrderGreedy_l_4
    exact loop_from (round := fun σ : Nat => law23_OrderGreedy_l_4_rd b x0 o i s.Ins s.Mids s.Outs s.All σ) (fun k => k) i o.length (Nat.le_of_lt hi) rd4 (by simp [law23_OrderGreedy_l_4_rd]) (by simp only [FU]; omega)
theorem greedy_out (x0 : Bool) (b : Bool) {o : List Int} {n0 : Nat} {s : Shape} {m : List Int} (h : GrSt b o n0 0 s m) (hn : n0 * n0 ≤ 1000) (ho : o.length ≤ 1000) :
    law23_OrderGreedy_l b x0 o 0 s.Ins s.Mids s.Outs s.All = some (.inr ()) ∧ law23_OrderGreedy_l_3 b x0 o 0 s.Ins s.Mids s.Outs s.All = some (.inr ()) := by
  have nx : ∀ {s : Shape} {v : Int}, s.right = true → s.isMid v = true → s.All.length ≤ 1000 → shape_Next s v = some (s.next v) := by
    intro s v h1 h2 h3
    rw [shape_Next_eq (by omega), ref22_Next_eq (by omega), if_pos h1, if_pos h2, next_eq h1 h2]
  constructor
  · suffices hh : ∃ r, law23_OrderGreedy_l b x0 o 0 s.Ins s.Mids s.Outs s.All = some r ∧ r = .inr () from by
      obtain ⟨r, r1, r2⟩ := hh
      rw [← r2]; exact r1
    unfold law23_OrderGreedy_l
    refine loop_inv (round := fun σ : Nat × Int × Int × Int × List Pair => law23_OrderGreedy_l_rd b x0 o σ.1 σ.2.1 σ.2.2.1 σ.2.2.2.1 σ.2.2.2.2) (Q := fun r => r = .inr ()) (fun i σ => σ.1 = i ∧ ∃ m, GrSt b o n0 i ⟨σ.2.1, σ.2.2.1, σ.2.2.2.1, σ.2.2.2.2⟩ m) o.length (0, s.Ins, s.Mids, s.Outs, s.All) ⟨rfl, m, h⟩ ?_ ?_ (by simp only [FU]; omega)
    · rintro i ⟨i', a, c, d, l⟩ hi ⟨q1, m, q2⟩
      simp only at q1 q2
      subst q1
      obtain ⟨m', g1, g2, -⟩ := q2.next hn hi
      have hin := (greedy_in x0 b q2 hn hi ho).1
      simp only at hin
      have hnx := nx q2.right g2 q2.len
      refine ⟨(i' + 1, (Shape.next ⟨a, c, d, l⟩ (nth o i')).1.Ins, (Shape.next ⟨a, c, d, l⟩ (nth o i')).1.Mids, (Shape.next ⟨a, c, d, l⟩ (nth o i')).1.Outs, (Shape.next ⟨a, c, d, l⟩ (nth o i')).1.All), ?_, rfl, m', g1⟩
      have e0 : (Shape.next ⟨a, c, d, l⟩ (nth o i')).2.2 = 0 := by rw [next_eq q2.right g2]
      simp (disch := omega) only [law23_OrderGreedy_l_rd, hin, hnx, e0, Bool.cond_decide, if_t, inK_i64, cond_true, Option.bind_some, caseS_inr, bne_self_eq_false, cond_false]
    · rintro ⟨i', a, c, d, l⟩ ⟨q1, m, q2⟩
      simp only at q1
      subst q1
      exact ⟨_, by simp only [law23_OrderGreedy_l_rd, Int.lt_irrefl, decide_false, cond_false], rfl⟩
  · suffices hh : ∃ r, law23_OrderGreedy_l_3 b x0 o 0 s.Ins s.Mids s.Outs s.All = some r ∧ r = .inr () from by
      obtain ⟨r, r1, r2⟩ := hh
      rw [← r2]; exact r1
    unfold law23_OrderGreedy_l_3
    refine loop_inv (round := fun σ : Nat × Int × Int × Int × List Pair => law23_OrderGreedy_l_3_rd b x0 o σ.1 σ.2.1 σ.2.2.1 σ.2.2.2.1 σ.2.2.2.2) (Q := fun r => r = .inr ()) (fun i σ => σ.1 = i ∧ ∃ m, GrSt b o n0 i ⟨σ.2.1, σ.2.2.1, σ.2.2.2.1, σ.2.2.2.2⟩ m) o.length (0, s.Ins, s.Mids, s.Outs, s.All) ⟨rfl, m, h⟩ ?_ ?_ (by simp only [FU]; omega)
    · rintro i ⟨i', a, c, d, l⟩ hi ⟨q1, m, q2⟩
      simp only at q1 q2
      subst q1
      obtain ⟨m', g1, g2, -⟩ := q2.next hn hi
      have hin := (greedy_in x0 b q2 hn hi ho).2
      simp only at hin
      have hnx := nx q2.right g2 q2.len
      refine ⟨(i' + 1, (Shape.next ⟨a, c, d, l⟩ (nth o i')).1.Ins, (Shape.next ⟨a, c, d, l⟩ (nth o i')).1.Mids, (Shape.next ⟨a, c, d, l⟩ (nth o i')).1.Outs, (Shape.next ⟨a, c, d, l⟩ (nth o i')).1.All), ?_, rfl, m', g1⟩
      have e0 : (Shape.next ⟨a, c, d, l⟩ (nth o i')).2.2 = 0 := by rw [next_eq q2.right g2]
      simp (disch := omega) only [law23_OrderGreedy_l_3_rd, hin, hnx, e0, Bool.cond_decide, if_t, inK_i64, cond_true, Option.bind_some, caseS_inr, bne_self_eq_false, cond_false]
    · rintro ⟨i', a, c, d, l⟩ ⟨q1, m, q2⟩
      simp only at q1
      subst q1
      exact ⟨_, by simp only [law23_OrderGreedy_l_3_rd, Int.lt_irrefl, decide_false, cond_false], rfl⟩
theorem mk_shape {I M O : Nat} {l : List Link} (hl : LinksOk l) (hI1 : 1 ≤ I) (hI : I ≤ 3) (hM : M ≤ 5) (hO1 : 1 ≤ O) (hO : O ≤ 3) :
    shape_From (mkGraph I M O l) = some (mkGraph I M O l).shape ∧ (mkGraph I M O l).shape.right = true ∧ (mkGraph I M O l).shape.All.length ≤ 64 ∧ (mkGraph I M O l).shape.n ≤ 11 := by
  have hr := mk_right (l := l) hI1 hI hM hO1 hO
  have h := shape_From_eq (by decide) (mk_ok hl hI hM hO)
  rw [if_pos hr] at h
  refine ⟨h, right_shape hr, ?_, ?_⟩
  · have hlen := mkAll_len I M O l (I + M)
    have h1 : (I + M) * (M + O) ≤ 8 * 8 := Nat.mul_le_mul (by omega) (by omega)
    simp only [Graph.shape, mkGraph, List.length_map]
    omega
  · simp only [Shape.n, Graph.shape, mkGraph]; omega
theorem OrderGreedy_at {x y z : Int} {l : List Link} {fill : Bool} (hx : 0 ≤ x) (hx2 : x ≤ 255) (hy : 0 ≤ y) (hy2 : y ≤ 255) (hz : 0 ≤ z) (hz2 : z ≤ 255) (hl : LinksOk l) : law23_OrderGreedy x y z l fill = some true := by
  by_cases h30 : ((l.length : Nat) : Int) > 30
  · simp only [law23_OrderGreedy, awake23, Option.bind_some, Bool.cond_decide, if_pos h30]
  · have hm := Made_eq (x := x) (y := y) (z := z) (I := (1 + x % 3).toNat) (M := (y % 6).toNat) (O := (1 + z % 3).toNat) hx hy hz (by omega) (by omega) (by omega) hl (by omega)
    obtain ⟨I, hI⟩ : ∃ I, I = (1 + x % 3).toNat := ⟨_, rfl⟩
    obtain ⟨M, hM⟩ : ∃ M, M = (y % 6).toNat := ⟨_, rfl⟩
    obtain ⟨O, hO⟩ : ∃ O, O = (1 + z % 3).toNat := ⟨_, rfl⟩
    rw [← hI, ← hM, ← hO] at hm
    obtain ⟨s1, s2, s3, s4⟩ := mk_shape (I := I) (M := M) (O := O) hl (by omega) (by omega) (by omega) (by omega) (by omega)
    generalize (mkGraph I M O l).shape = s at *
    have hnn : s.n * s.n ≤ 1000 := Nat.le_trans (Nat.mul_le_mul s4 s4) (by decide)
    have k1 := Markowitz_eq (s := s) (by omega) hnn
    have k2 := Fill_eq (s := s) (by omega) hnn
    rw [if_pos s2] at k1 k2
    obtain ⟨m1, m2⟩ := mids_len s2
    have st : ∀ b, GrSt b (s.greedy b) s.n 0 s s.mids := fun b => ⟨by rw [List.drop_zero]; rfl, s2, mids_sorted s, fun v hv => (mids_mid s2 v).1 hv, by omega, rfl⟩
    have len : ∀ b, (s.greedy b).length = s.mids.length := fun b => greedyP_len _ _ _ _
    have e0 : ∀ b, ((((s.greedy b).length : Nat) : Int) != s.Mids) = false := fun b => by rw [len b, m2]; simp
    cases fill with
    | true =>
      have g := (greedy_out true true (st true) hnn (by rw [len]; omega)).1
      simp only [law23_OrderGreedy, awake23, Option.bind_some, Bool.cond_decide, if_neg h30, hm, s1, k1, k2, cond_true, e0, cond_false, g, caseS_inr]
    | false =>
      have g := (greedy_out true false (st false) hnn (by rw [len]; omega)).2
      simp only [law23_OrderGreedy, awake23, Option.bind_some, Bool.cond_decide, if_neg h30, hm, s1, k1, k2, cond_false, e0, g, caseS_inr]
theorem OrderGreedy_true (a b c : Int) (d : List Link) (e : Bool) (ha : inRange .u8 a) (hb : inRange .u8 b) (hc : inRange .u8 c) (hd : d.length ≤ maxLen ∧ ∀ z, z ∈ d → inRange .u8 z.From ∧ inRange .u8 z.To ∧ inRange .i8 z.N ∧ inRange .u8 z.D_) : law23_OrderGreedy a b c d e = some true :=
  OrderGreedy_at ha.1 ha.2 hb.1 hb.2 hc.1 hc.2 (links_ok hd.2)
end Go.Ab.M
end

section
/-
  THE LAW 'OrderGreedy' FROM ITS CONTRACT AND ITS PLAIN LAW.
-/
namespace Go.Proofs.Ytgefhpoejihneaa.orderGreedy
open Go.ChangeShapes Go.WideShapes Go.ChangeAt Go.RowKit Go.Ab Go.Ab.M
set_option linter.unusedVariables false

theorem own : ownKnob Try.prog.godebug = none := by kernel_rfl

theorem core (a : Int) (b : Int) (c : Int) (d : List Link) (e : Bool) (ha : inRange .u8 a) (hb : inRange .u8 b) (hc : inRange .u8 c) (hd : (d.length ≤ maxLen ∧ ∀ z, z ∈ d → tyLink.ok z)) : ACallsD Try.prog 7 0 [NI .u8 a, NI .u8 b, NI .u8 c, SL Link.D d, B e] [] yes [] := law23_OrderGreedy_ok a b c d e true (OrderGreedy_true a b c d e ha hb hc hd)

set_option maxRecDepth 100000 in
theorem contract (H : Type) (enc : TypeId × Value → H) (W : World) (base : Nat) (args : Array Value) (ds gs : List (DataW H)) (before : List MemPlace)
    (hval : ∀ (j : Nat) t v, Try.f7.params[j]? = some t → args[j]? = some v → Value.okWide Try.prog W .any base t v)
    (hW : DataW.Whole enc Try.prog Try.f7.params.toList Rows.orderGreedySpec.vars false W args.toList ds gs before) :
    Calls Try.prog 7 args W fun e W' => ∃ v, e = .returned v ∧ Rows.orderGreedySpec.post enc Try.prog Try.f7 false true false false W args v W' :=
  law_contract (tb := 4) (ts := [5, 5, 5, 47, 4]) (Tup.one (Ty.int .u8 Try.underlying5) (fun n => .v (.int .u8 n)) (fun _ => rfl) (one_int Try.underlying5) (Tup.one (Ty.int .u8 Try.underlying5) (fun n => .v (.int .u8 n)) (fun _ => rfl) (one_int Try.underlying5) (Tup.one (Ty.int .u8 Try.underlying5) (fun n => .v (.int .u8 n)) (fun _ => rfl) (one_int Try.underlying5) (Tup.one (Ty.slice Try.underlying47 tyLink (by decide +kernel) (fun _ => show 4 = _ by kernel_rfl)) (fun l => .sl (l.map Link.D)) (fun _ => rfl) (one_slice Try.underlying47) (Tup.one (Ty.bool Try.underlying4) (fun n => .v (.bool n)) (fun _ => rfl) (one_bool Try.underlying4) Tup.nil))))) (by kernel_rfl) (by kernel_rfl) (by kernel_rfl) (by kernel_rfl) Try.underlying4 rfl (fun ds h => by
      match ds, h with
      | [d0, d1, d2, d3, d4], _ => rfl) hval hW
    fun y hy _ => core y.1 y.2.1 y.2.2.1 y.2.2.2.1 y.2.2.2.2.1 hy.1 hy.2.1 hy.2.2.1 hy.2.2.2.1

set_option maxRecDepth 100000 in
theorem lifted (os : Os) (started : os.Started) (H : Type) (enc : TypeId × Value → H) :
    ReturnsInHanded {} Try.checked os 7 .any (Rows.orderGreedySpec.pre6 enc Try.prog Try.f7 Rows.orderGreedyRow.domain false) (Rows.orderGreedySpec.post enc Try.prog Try.f7 false true false false) := by
  refine returnsInHanded_of_change (C := Try.checked) own started (by kernel_rfl) Try.func7
    (ChangeSpec.witness6 (enc := enc) (C := Try.checked) false ⟨#[], #[.int .u8 0, .int .u8 0, .int .u8 0, .slice none 0 0, .bool false], []⟩ 8 (by kernel_rfl) (by kernel_rfl) (by kernel_rfl) (by kernel_rfl)) ?_
  intro W base args ds gs before hval hW _ _
  exact contract H enc W base args ds gs before hval hW

theorem over : Rows.orderGreedyRow.holds Try.pinned (OpenSpec.ofChange Rows.orderGreedySpec) :=
  OpenClaim.holds_of_wide 7 Try.f7 rfl rfl rfl rfl rfl rfl rfl ⟨rfl, rfl, rfl, rfl, rfl⟩ rfl rfl rfl rfl rfl (by kernel_rfl) Try.func7 (by kernel_rfl)
    (of_decide_eq_true (by kernel_rfl)) (by unfold Func.isWrapper; first | (rw [if_pos (by decide +kernel)]; kernel_rfl) | (rw [if_neg (by decide +kernel)]; exact ⟨rfl, rfl⟩))
    (fun os started H enc _ => lifted os started H enc)

theorem proved : Rows.OrderGreedySaid :=
  over
end Go.Proofs.Ytgefhpoejihneaa.orderGreedy
end
