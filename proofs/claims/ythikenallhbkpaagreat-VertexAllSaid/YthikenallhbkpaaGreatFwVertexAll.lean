/-
  THE LAW 'VertexAll' HOLDS AT EVERY INPUT.
  Conditions: none.
-/
import Derived.Test.YthikenallhbkpaaGreatLwVertexAll
import Derived.Test.YthikenallhbkpaaGreatPS
import Derived.Test.YthikenallhbkpaaGreatTL
section
/-
  PLAIN LAW: AN ORDER OF ALL MIDS; ALL OF THEM GO.
-/
namespace Go.Ab.M
open Go.Proofs Go.Ab
set_option linter.unusedVariables false
set_option linter.unusedSimpArgs false
/-- all mids -/
def midsI (I M : Nat) : List Int := (List.range M).map fun t => ((I + t : Nat) : Int)
theorem mem_midsI {I M : Nat} {x : Int} : x ∈ midsI I M ↔ (I : Int) ≤ x ∧ x < (I : Int) + M := by
  simp only [midsI, List.mem_map, List.mem_range]
  constructor
  · rintro ⟨t, ht, rfl⟩; omega
  · rintro ⟨h1, h2⟩; exact ⟨(x - I).toNat, by omega, by omega⟩
theorem midsI_nd (I M : Nat) : (midsI I M).Nodup := by
  refine List.nodup_iff_pairwise_ne.2 (List.Pairwise.map _ (fun a b (hab : a < b) => ?_) List.pairwise_lt_range)
  omega
theorem Order_eq {g : Graph} {I M O : Nat} (h : RGr g I M O) {keys : List Int} (hk : ∀ x, x ∈ keys → 0 ≤ x ∧ x ≤ 255) : ∃ ord, ref18_Order g keys = some ord ∧ ord.Perm (midsI I M) := by
  have i2 := h.i2; have m2 := h.m2
  have r1 : ref18_Order_l g keys [] g.Ins = some (midsI I M) := by
    unfold ref18_Order_l
    have := loop_run (round := fun σ : List Int × Int => ref18_Order_l_rd g keys σ.1 σ.2) (fun t => ((List.range t).map fun t => ((I + t : Nat) : Int), ((I + t : Nat) : Int))) M (r := (List.range M).map fun t => ((I + t : Nat) : Int)) (fun t ht => ?_) ?_ (by simp only [FU]; omega)
    · rw [h.i]
      exact this
    · show ref18_Order_l_rd g keys _ ((I + t : Nat) : Int) = some (.inl (_, _))
      rw [List.range_succ, List.map_append]
      have hl : ((List.range t).map fun t => ((I + t : Nat) : Int)).length = t := by simp
      generalize (List.range t).map (fun t => ((I + t : Nat) : Int)) = l0 at hl ⊢
      simp (disch := omega) only [ref18_Order_l_rd, h.i, h.m, Bool.cond_decide, if_t, inK_i64, cond_true]
      rw [show ((I + t : Nat) : Int) + 1 = ((I + (t + 1) : Nat) : Int) by omega]
      rfl
    · simp (disch := omega) only [ref18_Order_l_rd, h.i, h.m, Bool.cond_decide, if_f, inK_i64, cond_true]
  have r2 : ∃ ord, ref18_Order_l_2 keys (midsI I M) [] 0 = some ord ∧ ord.Perm (midsI I M) := by
    unfold ref18_Order_l_2
    have ml : (midsI I M).length = M := by simp [midsI]
    refine loop_inv (fun t (σ : List Int × List Int × Nat) => σ.2.2 = t ∧ (σ.2.1 ++ σ.1).Perm (midsI I M) ∧ σ.2.1.length = t) M (midsI I M, [], 0) ⟨rfl, .refl _, rfl⟩ ?_ ?_ (by simp only [FU]; omega)
    · rintro _ ⟨left, out, i⟩ hi ⟨rfl, hp, ho⟩
      have hi : i < M := hi
      have hp : (out ++ left).Perm (midsI I M) := hp
      have ho : out.length = i := ho
      have hlen : out.length + left.length = M := by rw [← List.length_append, hp.length_eq, ml]
      have key : ∀ k, k < left.length → ((out ++ [nth left k]) ++ (([] ++ left.take k) ++ left.drop (k + 1))).Perm (midsI I M) := fun k hk => by
        refine List.Perm.trans ?_ hp
        rw [List.append_assoc]
        refine List.Perm.append_left out ?_
        have e : left = left.take k ++ nth left k :: left.drop (k + 1) := by
          have := List.take_append_drop k left
          rw [List.drop_eq_getElem_cons hk, ← nth_get hk] at this
          exact this.symm
        rw [List.nil_append]
        conv => rhs; rw [e]
        show (nth left k :: (left.take k ++ left.drop (k + 1))).Perm _
        exact List.perm_middle.symm
      by_cases h1 : i < keys.length
      · obtain ⟨k0, k1⟩ := hk _ (nth_mem h1)
        have hm0 := Int.emod_nonneg (nth keys i) (show ((left.length : Nat) : Int) ≠ 0 by omega)
        have hm1 := Int.emod_lt_of_pos (nth keys i) (show (0 : Int) < ((left.length : Nat) : Int) by omega)
        have kk := key (nth keys i % ((left.length : Nat) : Int)).toNat (by omega)
        refine ⟨(([] ++ left.take (nth keys i % ((left.length : Nat) : Int)).toNat) ++ left.drop ((nth keys i % ((left.length : Nat) : Int)) + 1).toNat, out ++ [nth left (nth keys i % ((left.length : Nat) : Int)).toNat], i + 1), ?_, rfl, ?_, by simp [ho]⟩
        · have t1 : (left.take (nth keys i % ((left.length : Nat) : Int)).toNat).length ≤ left.length := by rw [List.length_take]; omega
          have t2 : (left.drop ((nth keys i % ((left.length : Nat) : Int)) + 1).toNat).length ≤ left.length := by rw [List.length_drop]; omega
          simp only [ref18_Order_l_2_rd, List.nil_append]
          generalize left.take (nth keys i % ((left.length : Nat) : Int)).toNat = L1 at *
          generalize left.drop ((nth keys i % ((left.length : Nat) : Int)) + 1).toNat = L2 at *
          generalize nth left (nth keys i % ((left.length : Nat) : Int)).toNat = X at *
          generalize nth keys i % ((left.length : Nat) : Int) = a at *
          simp (disch := omega) only [Bool.cond_decide, if_t, inK_i64, cond_true]
        · show ((out ++ [nth left _]) ++ (([] ++ left.take _) ++ left.drop _)).Perm _
          rw [show ((nth keys i % ((left.length : Nat) : Int)) + 1).toNat = (nth keys i % ((left.length : Nat) : Int)).toNat + 1 by omega]
          exact kk
      · have kk := key 0 (by omega)
        refine ⟨(([] ++ left.take 0) ++ left.drop 1, out ++ [nth left 0], i + 1), ?_, rfl, kk, by simp [ho]⟩
        have t2 : (left.drop 1).length ≤ left.length := by rw [List.length_drop]; omega
        have t1 : (left.take 0).length ≤ left.length := by rw [List.length_take]; omega
        simp only [ref18_Order_l_2_rd, List.nil_append]
        generalize left.drop 1 = L2 at *
        generalize left.take 0 = L1 at *
        simp (disch := omega) only [Bool.cond_decide, if_t, if_f, inK_i64, cond_true]
    · rintro ⟨left, out, i⟩ ⟨hi, hp, ho⟩
      have hi : i = M := hi
      have hp : (out ++ left).Perm (midsI I M) := hp
      have ho : out.length = M := ho
      have hlen : out.length + left.length = M := by rw [← List.length_append, hp.length_eq, ml]
      have hl : left = [] := List.eq_nil_of_length_eq_zero (by omega)
      subst hl
      rw [List.append_nil] at hp
      exact ⟨out, rfl, hp⟩
  obtain ⟨ord, h1, h2⟩ := r2
  exact ⟨ord, by simp only [ref18_Order, r1, h1, Option.bind_some], h2⟩
theorem all_good {I M O : Nat} : ∀ (order : List Int) (sum : Int) (g : Graph), Inv g I M O → order.Nodup → (∀ x, x ∈ order → g.can x = true) →
    ∃ s h, allF order sum g = .inr (s, h.Ins, h.Mids, h.Outs, h.Edges, h.Gone) ∧ Inv h I M O ∧ h.Gone.length = g.Gone.length + order.length ∧ (∀ k, entry I M h.E k = entry I M g.E k) ∧ (∀ x, x ∈ h.Gone ↔ x ∈ g.Gone ∨ x ∈ order)
  | [], sum, g, hg, _, _ => ⟨sum, g, rfl, hg, rfl, fun _ => rfl, fun x => by simp⟩
  | v :: r, sum, g, hg, hn, hc => by
    obtain ⟨n1, n2⟩ := List.nodup_cons.1 hn
    have cv := hc v (by simp)
    have e := can_nat hg.r cv
    rw [e] at cv
    have hi := hg.elim cv
    have hr : ∀ x, x ∈ r → (g.elim (I + M + O) v.toNat).can x = true := fun x hx => by
      have cx := hc x (by simp [hx])
      have ex := can_nat hg.r cx
      rw [ex] at cx ⊢
      rw [can_elim hg.r cv, cx, decide_eq_true]
      · rfl
      · intro e2
        exact n1 (by rw [e, ← e2, ← ex]; exact hx)
    have st := elimR_can hg.r cv
    rw [← e] at st
    obtain ⟨s, h, a1, a2, a3, a4, a5⟩ := all_good r (sum + (g.elimR v).2.1) (g.elim (I + M + O) v.toNat) hi n2 hr
    refine ⟨s, h, ?_, a2, ?_, fun k => by rw [a4 k, elim_entry hg.r cv], fun x => ?_⟩
    · have h0 : (g.elimR v).2.2 = 0 := by rw [st]
      have h1 : (g.elimR v).1 = g.elim (I + M + O) v.toNat := by rw [st]
      simp only [allF, h0, ne_eq, not_true_eq_false, if_false, h1]
      exact a1
    · have : (g.elim (I + M + O) v.toNat).Gone.length = g.Gone.length + 1 := insG_len hg.r.gs (can_iff.1 cv).2.2.2
      rw [a3, this, List.length_cons]
      omega
    · rw [a5, List.mem_cons]
      have : x ∈ (g.elim (I + M + O) v.toNat).Gone ↔ x = ((v.toNat : Nat) : Int) ∨ x ∈ g.Gone := mem_insG
      rw [this, ← e]
      constructor
      · rintro ((a | a) | a)
        · exact .inr (.inl a)
        · exact .inl a
        · exact .inr (.inr a)
      · rintro (a | a | a)
        · exact .inl (.inr a)
        · exact .inl (.inl a)
        · exact .inr a
end Go.Ab.M
end

section
/-
  PLAIN LAW: WHEN ALL MIDS ARE GONE THE GRAPH IS COMPLETE, AND ITS LABELS ARE THE PATHS.
-/
namespace Go.Ab.M
open Go.Proofs Go.Ab
set_option linter.unusedVariables false
set_option linter.unusedSimpArgs false
theorem law_loop {I M O : Nat} (x0 : Bool) (x1 : Graph) (x3 : Graph × Int × Int) (order : List Int) (hl : order.length ≤ 1000) :
    ∀ (k i n : Nat) (sum : Int) (g : Graph), i + k = order.length → k < n → 0 ≤ sum → sum ≤ (i : Int) * 121 → Inv g I M O → (order.drop i).Nodup → (∀ x, x ∈ order.drop i → g.can x = true) →
      loopN (fun (σ : Int × Nat × Int × Int × Int × List Edge × List Int) => law18_VertexAll_l_rd x0 x1 order x3 σ.1 σ.2.1 σ.2.2.1 σ.2.2.2.1 σ.2.2.2.2.1 σ.2.2.2.2.2.1 σ.2.2.2.2.2.2) n (sum, i, g.Ins, g.Mids, g.Outs, g.Edges, g.Gone) = match allF (order.drop i) sum g with
        | .inl _ => none
        | .inr x => some (.inr x) := by
  intro k
  induction k with
  | zero =>
    intro i n sum g hi hn hs0 hs hg _ _
    obtain rfl : i = order.length := by omega
    cases n with
    | zero => omega
    | succ n =>
      rw [List.drop_length]
      simp only [loopN, law18_VertexAll_l_rd, Int.lt_irrefl, decide_false, cond_false]
      rfl
  | succ k ih =>
    intro i n sum g hi hn hs0 hs hg hnd hc
    cases n with
    | zero => omega
    | succ n =>
      have hlt : i < order.length := by omega
      rw [nth_drop hlt] at hnd hc ⊢
      obtain ⟨n1, n2⟩ := List.nodup_cons.1 hnd
      have cv := hc (nth order i) (by simp)
      generalize hv : nth order i = v at *
      have e := can_nat hg.r cv
      rw [e] at cv
      have hin := hg.elim cv
      have hr : ∀ x, x ∈ order.drop (i + 1) → (g.elim (I + M + O) v.toNat).can x = true := fun x hx => by
        have cx := hc x (by simp [hx])
        have ex := can_nat hg.r cx
        rw [ex] at cx ⊢
        rw [can_elim hg.r cv, cx, decide_eq_true]
        · rfl
        · intro e2
          exact n1 (by rw [e, ← e2, ← ex]; exact hx)
      have st := elimR_can hg.r cv
      rw [← e] at st
      have hz := hg.sz
      have p1 := prog_elimR hg.ok (szK_pos _) (by omega) v (by omega)
      have p2 := vertex_Cost_eq (s := szK g.Gone.length) hg.ok (by omega) v
      rcases hg.step v with ⟨e1, e2, e3, e4⟩ | e1
      · have h1 : (g.elimR v).1 = g.elim (I + M + O) v.toNat := by rw [st]
        have h0 : ((g.elimR v).2.2 != 0) = false := by rw [e1]; rfl
        rw [h1] at e2
        have := ih (i + 1) n (sum + (g.elimR v).2.1) (g.elim (I + M + O) v.toNat) (by omega) (by omega) (by omega) (by omega) e2 n2 hr
        have rd : law18_VertexAll_l_rd x0 x1 order x3 sum i g.Ins g.Mids g.Outs g.Edges g.Gone = some (.inl (sum + (g.elimR v).2.1, i + 1, (g.elimR v).1.Ins, (g.elimR v).1.Mids, (g.elimR v).1.Outs, (g.elimR v).1.Edges, (g.elimR v).1.Gone)) := by
          have eta : Graph.mk g.Ins g.Mids g.Outs g.Edges g.Gone = g := rfl
          simp (disch := omega) only [law18_VertexAll_l_rd, eta, hv, p1, p2, Option.bind_some, Bool.cond_decide, if_t, inK_i64, h0, cond_false, cond_true]
        simp only [loopN, rd, Option.bind_some, caseS, allF, e1, ne_eq, not_true_eq_false, if_false]
        rw [h1]
        exact this
      · rw [st] at e1
        cases e1
theorem gone_comp {h : Graph} {I M O : Nat} (hr : RGr h I M O) (hall : ∀ x : Int, (I : Int) ≤ x → x < (I : Int) + M → x ∈ h.Gone) : h.comp I M = true := by
  unfold Graph.comp
  rw [List.all_eq_true]
  intro i hi
  have hi : i < h.Edges.length := by simpa using hi
  have hw := nth_mem hi
  have he := hr.e _ hw
  have : ¬ (I : Int) ≤ (nth h.Edges i).From := fun hle => ((hr.gn _ (hall _ hle he.2.1)).2.2 _ hw).1 rfl
  unfold compFits
  rw [decide_eq_false this]
  rfl
theorem VertexAll_true (x y z : Int) (l : List Link) (keys : List Int) (hx : inRange .u8 x) (hy : inRange .u8 y) (hz : inRange .u8 z) (hl : l.length ≤ maxLen ∧ ∀ z, z ∈ l → inRange .u8 z.From ∧ inRange .u8 z.To ∧ inRange .i8 z.N ∧ inRange .u8 z.D_) (hk : keys.length ≤ maxLen ∧ ∀ z, z ∈ keys → inRange .u8 z) : law18_VertexAll x y z l keys = some true := by
  by_cases h30 : ((l.length : Nat) : Int) > 30
  · simp only [law18_VertexAll, awake18, Option.bind_some, Bool.cond_decide, if_pos h30]
  · obtain ⟨I, M, O, ⟨i1, i2, m2, o1, o2, -⟩, hm, -, -, hE, hgone⟩ := made_all hx hy hz (links_ok hl.2) (by omega)
    have h := mk_inv (links_ok hl.2) i1 i2 m2 o1 o2
    generalize mkGraph I M O l = g at *
    obtain ⟨ord, ho, hp⟩ := Order_eq h.r (keys := keys) (fun x hx => ⟨(hk.2 x hx).1, (hk.2 x hx).2⟩)
    have hol : ord.length = M := by rw [hp.length_eq]; simp [midsI]
    have hnd : ord.Nodup := (hp.nodup_iff).2 (midsI_nd I M)
    have hcan : ∀ x, x ∈ ord → g.can x = true := fun x hx => by
      have := mem_midsI.1 (hp.mem_iff.1 hx)
      exact can_iff.2 ⟨h.r.right, by rw [h.r.i]; omega, by rw [h.r.i, h.r.m]; omega, by rw [hgone]; simp⟩
    obtain ⟨s, q, a1, a2, a3, a4, a5⟩ := all_good ord 0 g h hnd hcan
    have A := prog_All h (order := ord) (by omega)
    have hR : g.allR ord = (q, s, 0) := by unfold Graph.allR; rw [a1]
    rw [hR] at A
    have L : ∀ x0 x3, law18_VertexAll_l x0 g ord x3 0 0 g.Ins g.Mids g.Outs g.Edges g.Gone = some (.inr (s, q.Ins, q.Mids, q.Outs, q.Edges, q.Gone)) := fun x0 x3 => by
      have := law_loop x0 g x3 ord (by omega) ord.length 0 FU 0 g (by omega) (by simp only [FU]; omega) (by decide) (by decide) h hnd hcan
      rw [List.drop_zero, a1] at this
      exact this
    have hall : ∀ x : Int, (I : Int) ≤ x → x < (I : Int) + M → x ∈ q.Gone := fun x h1 h2 => (a5 x).2 (.inr (hp.mem_iff.2 (mem_midsI.2 ⟨h1, h2⟩)))
    have hz := a2.sz
    have cq := gone_comp a2.r hall
    have C := graph_Complete_eq (n := szK q.Gone.length) a2.r a2.ok (by omega)
    rw [cq] at C
    have D := graph_Direct_eq (n := szK q.Gone.length) a2.r a2.ok (by omega)
    have k0 : szK g.Gone.length = 1 := by rw [hgone]; rfl
    have ok := h.ok
    rw [k0] at ok
    have P := graph_Paths_eq h.r ok (by decide) (by decide) (by omega)
    have same := paths_same h.r ok (by decide) (by omega)
    have ent : (List.range (O * I)).map (dent I M q.E) = (List.range (O * I)).map (entry I M g.E) := tab_congr fun k _ => by rw [← a4 k, comp_entry a2.r cq]
    rw [ent] at D
    have sq := a2.same
    have lenq : ((q.Gone.length : Nat) : Int) = g.Mids := by rw [a3, hgone, hol, h.r.m]; simp
    have eta : Graph.mk q.Ins q.Mids q.Outs q.Edges q.Gone = q := rfl
    simp only [law18_VertexAll, awake18, hm, ho, A, L, C, D, P, same, eta, sq, lenq, Option.bind_some, caseS, Bool.cond_decide, if_neg h30, cond_true, BEq.rfl]
end Go.Ab.M
end

section
/-
  ARGUMENTS AS TYPED DATA (printed by jot.py).
-/
namespace Go.Ab.M
open Go.Proofs Go.Proofs.YthikenallhbkpaaGreat
set_option linter.unusedVariables false
def tyLink : Ty Tryz.prog 96 := Ty.as (Ty.struct Tryz.underlying96 (Flds.cons (Ty.int .u8 Tryz.underlying5) rfl 1 (by kernel_rfl) (Flds.cons (Ty.int .u8 Tryz.underlying5) rfl 1 (by kernel_rfl) (Flds.cons (Ty.int .i8 Tryz.underlying94) rfl 1 (by kernel_rfl) (Flds.last (Ty.int .u8 Tryz.underlying5) rfl (by kernel_rfl))))))
  (fun y => Link.mk y.1 y.2.1 y.2.2.1 y.2.2.2) Link.D (fun y => inRange .u8 y.From ∧ inRange .u8 y.To ∧ inRange .i8 y.N ∧ inRange .u8 y.D_) (fun _ => 0) (fun _ => rfl) (fun _ h => h) (fun _ => Nat.zero_le _)
end Go.Ab.M
end

section
namespace Go.Proofs.YthikenallhbkpaaGreat.vertexAll
open Go.ChangeShapes Go.WideShapes Go.ChangeAt Go.RowKit Go.Ab Go.Ab.M
set_option linter.unusedVariables false

theorem own : ownKnob Tryz.prog.godebug = none := by kernel_rfl

theorem core (a : Int) (b : Int) (c : Int) (d : List Link) (e : List Int) (ha : inRange .u8 a) (hb : inRange .u8 b) (hc : inRange .u8 c) (hd : (d.length ≤ maxLen ∧ ∀ z, z ∈ d → tyLink.ok z)) (he : (e.length ≤ maxLen ∧ ∀ z, z ∈ e → inRange .u8 z)) : ACallsD Tryz.prog 11 0 [NI .u8 a, NI .u8 b, NI .u8 c, SL Link.D d, SL (cI .u8) e] [] yes [] := law18_VertexAll_ok a b c d e true (VertexAll_true a b c d e ha hb hc hd he)

set_option maxRecDepth 100000 in
theorem contract (H : Type) (enc : TypeId × Value → H) (W : World) (base : Nat) (args : Array Value) (ds gs : List (DataW H)) (before : List MemPlace)
    (hval : ∀ (j : Nat) t v, Tryz.f11.params[j]? = some t → args[j]? = some v → Value.okWide Tryz.prog W .any base t v)
    (hW : DataW.Whole enc Tryz.prog Tryz.f11.params.toList Rows.vertexAllSpec.vars false W args.toList ds gs before) :
    Calls Tryz.prog 11 args W fun e W' => ∃ v, e = .returned v ∧ Rows.vertexAllSpec.post enc Tryz.prog Tryz.f11 false true false false W args v W' :=
  law_contract (tb := 4) (ts := [5, 5, 5, 37, 56]) (Tup.one (Ty.int .u8 Tryz.underlying5) (fun n => .v (.int .u8 n)) (fun _ => rfl) (one_int Tryz.underlying5) (Tup.one (Ty.int .u8 Tryz.underlying5) (fun n => .v (.int .u8 n)) (fun _ => rfl) (one_int Tryz.underlying5) (Tup.one (Ty.int .u8 Tryz.underlying5) (fun n => .v (.int .u8 n)) (fun _ => rfl) (one_int Tryz.underlying5) (Tup.one (Ty.slice Tryz.underlying37 tyLink (by decide +kernel) (fun _ => show 4 = _ by kernel_rfl)) (fun l => .sl (l.map Link.D)) (fun _ => rfl) (one_slice Tryz.underlying37) (Tup.one (Ty.slice Tryz.underlying56 (Ty.int .u8 Tryz.underlying5) (by decide +kernel) (fun _ => show 1 = _ by kernel_rfl)) (fun l => .sl (l.map (cI .u8))) (fun _ => rfl) (one_slice Tryz.underlying56) Tup.nil))))) (by kernel_rfl) (by kernel_rfl) (by kernel_rfl) (by kernel_rfl) Tryz.underlying4 rfl (fun ds h => by
      match ds, h with
      | [d0, d1, d2, d3, d4], _ => rfl) hval hW
    fun y hy _ => core y.1 y.2.1 y.2.2.1 y.2.2.2.1 y.2.2.2.2.1 hy.1 hy.2.1 hy.2.2.1 hy.2.2.2.1 hy.2.2.2.2.1

set_option maxRecDepth 100000 in
theorem lifted (os : Os) (started : os.Started) (H : Type) (enc : TypeId × Value → H) :
    ReturnsInHanded {} Tryz.checked os 11 .any (Rows.vertexAllSpec.pre6 enc Tryz.prog Tryz.f11 Rows.vertexAllRow.domain false) (Rows.vertexAllSpec.post enc Tryz.prog Tryz.f11 false true false false) := by
  refine returnsInHanded_of_change (C := Tryz.checked) own started (by kernel_rfl) Tryz.func11
    (ChangeSpec.witness6 (enc := enc) (C := Tryz.checked) false ⟨#[], #[.int .u8 0, .int .u8 0, .int .u8 0, .slice none 0 0, .slice none 0 0], []⟩ 8 (by kernel_rfl) (by kernel_rfl) (by kernel_rfl) (by kernel_rfl)) ?_
  intro W base args ds gs before hval hW _ _
  exact contract H enc W base args ds gs before hval hW

theorem over : Rows.vertexAllRow.holds Tryz.pinned (OpenSpec.ofChange Rows.vertexAllSpec) :=
  OpenClaim.holds_of_wide 11 Tryz.f11 rfl rfl rfl rfl rfl rfl rfl ⟨rfl, rfl, rfl, rfl, rfl⟩ rfl rfl rfl rfl rfl (by kernel_rfl) Tryz.func11 (by kernel_rfl)
    (of_decide_eq_true (by kernel_rfl)) (by unfold Func.isWrapper; first | (rw [if_pos (by decide +kernel)]; kernel_rfl) | (rw [if_neg (by decide +kernel)]; exact ⟨rfl, rfl⟩))
    (fun os started H enc _ => lifted os started H enc)

theorem proved : Rows.VertexAllSaid :=
  over
end Go.Proofs.YthikenallhbkpaaGreat.vertexAll
end
