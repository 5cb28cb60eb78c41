/-
  THE LAW 'SlopeAlong' HOLDS AT EVERY INPUT.
  Conditions: none.
-/
import Derived.Test.YtcelliafjmmldaaGreatLwSlopeAlong
import Derived.Test.YtcelliafjmmldaaGreatPT
import Derived.Test.YtcelliafjmmldaaGreatWB
section
/-
  PLAIN LAW: THE DERIVATIVE OF ANY TAPE ALONG ANY DIRECTION IS AS THE DOCUMENT SAYS.
-/
namespace Go.Ab.M
open Go.Proofs Go.Ab
set_option linter.unusedVariables false
set_option linter.unusedSimpArgs false

theorem rat_okT {x : Rat} {n : Nat} (h : True ∧ (x.Num.length ≤ maxLen ∧ ∀ z, z ∈ x.Num → inRange .u32 z) ∧ (x.Den.length ≤ maxLen ∧ ∀ z, z ∈ x.Den → inRange .u32 z)) (k : x.Num.length ≤ n ∧ x.Den.length ≤ n) : okL n x :=
  ⟨fun z hz => ⟨(h.2.1.2 z hz).1, Int.lt_of_le_of_lt (h.2.1.2 z hz).2 (by decide)⟩, fun z hz => ⟨(h.2.2.2 z hz).1, Int.lt_of_le_of_lt (h.2.2.2 z hz).2 (by decide)⟩, k.1, k.2⟩
theorem max_len {n : Nat} (h : n ≤ maxLen) : n ≤ 9223372036854775807 := Nat.le_trans h (by decide)
theorem u8_in {z : Int} (h : inRange .u8 z) : 0 ≤ z ∧ z ≤ 255 := ⟨h.1, h.2⟩
theorem s3_in {l : List S_Op_A_B_N} (h : ∀ z, z ∈ l → inRange .u8 z.Op ∧ inRange .u8 z.A_ ∧ inRange .u8 z.B_ ∧ inRange .u8 z.N) : ∀ i, i < l.length → S3Ok (nth l i) := fun i hi => by
  obtain ⟨⟨a1, a2⟩, ⟨b1, b2⟩, ⟨c1, c2⟩, ⟨d1, d2⟩⟩ := h _ (nth_mem hi)
  exact ⟨a1, a2, b1, b2, c1, c2, d1, d2⟩
/-- points of small numbers -/
theorem point_eq {I : Nat} (hI : I ≤ 3) {l : List S_N_D} (hl : l.length ≤ 9223372036854775807) (h : ∀ z, z ∈ l → inRange .i8 z.N ∧ inRange .u8 z.D_) : ∃ x, ref15_Point (I : Int) l = some x ∧ x.length = I ∧ Pt x := by
  have key : ∃ x, ref15_Point_l (I : Int) l [] 0 = some x ∧ (x.length = I ∧ ∀ j, j < x.length → okL 1 (nth x j)) := by
    unfold ref15_Point_l
    refine loop_inv (round := fun σ : List Rat × Nat => ref15_Point_l_rd (I : Int) l σ.1 σ.2) (fun i σ => σ.2 = i ∧ σ.1.length = i ∧ ∀ j, j < σ.1.length → okL 1 (nth σ.1 j)) I _ ⟨rfl, rfl, fun j hj => by simp at hj⟩ ?_ ?_ (by simp only [FU]; omega)
    · rintro i ⟨out, j⟩ hi ⟨rfl, ho, hq⟩
      dsimp only at hi ho hq ⊢
      have g1 : ((j : Nat) : Int) < (I : Int) := by omega
      have g3 : out.length + 1 ≤ 2147483648 := by omega
      have go : ∀ q : _root_.Rat, szQ 1 q → ∀ k, k < (out ++ [ofR q]).length → okL 1 (nth (out ++ [ofR q]) k) := fun q sq k hk => by
        rw [List.length_append, List.length_singleton] at hk
        by_cases c : k < out.length
        · rw [nth_app c]; exact hq k c
        · obtain rfl : k = out.length := by omega
          rw [nth_snoc]; exact sq.ok
      by_cases c : j < l.length
      · obtain ⟨⟨n1, n2⟩, ⟨d1, d2⟩⟩ := h _ (nth_mem c)
        have g2 : ((j : Nat) : Int) < (l.length : Int) := by omega
        have g4 : 0 ≤ (nth l j).D_ := d1
        have g5 : (0 : Int) < 4 := by omega
        have n1' : -128 ≤ (nth l j).N := n1
        have n2' : (nth l j).N ≤ 127 := n2
        obtain ⟨q, e, q1, q2⟩ := small_const (n := (nth l j).N) (d := (nth l j).D_ % 4) n1' n2' (by omega) (by omega)
        refine ⟨(out ++ [ofR q], j + 1), ?_, rfl, by simp [ho], go q (sz1_of q1 q2)⟩
        have g6 : decide (0 < 4) = true := rfl
        simp (disch := omega) only [ref15_Point_l_rd, Bool.cond_decide, if_pos g1, if_pos g2, if_pos c, if_pos g4, if_pos g5, g6, e, Option.bind_some, if_pos g3, inK_i64, cond_true]
        try rfl
      · have g2 : ¬ ((j : Nat) : Int) < (l.length : Int) := by omega
        refine ⟨(out ++ [ofR 0], j + 1), ?_, rfl, by simp [ho], go 0 (sz_zero (by decide))⟩
        simp (disch := omega) only [ref15_Point_l_rd, Bool.cond_decide, if_pos g1, if_neg g2, ref08_Of_zero, Option.bind_some, if_pos g3, inK_i64, cond_true]
    · rintro ⟨out, j⟩ ⟨h1, ho, hq⟩
      dsimp only at h1 ho hq ⊢
      have g1 : ¬ ((j : Nat) : Int) < (I : Int) := by omega
      exact ⟨out, by simp only [ref15_Point_l_rd, Bool.cond_decide, if_neg g1], ho, hq⟩
  obtain ⟨x, e, h1, h2⟩ := key
  exact ⟨x, by simp only [ref15_Point, e, Option.bind_some], h1, by omega, h2⟩
theorem few_pt {l : List Rat} (hl : l.length ≤ 1000) (h : ∀ z, z ∈ l → True ∧ (z.Num.length ≤ maxLen ∧ ∀ y, y ∈ z.Num → inRange .u32 y) ∧ (z.Den.length ≤ maxLen ∧ ∀ y, y ∈ z.Den → inRange .u32 y)) (hf : ∀ x ∈ l, x.Num.length ≤ 1 ∧ x.Den.length ≤ 1) : Pt l :=
  ⟨hl, fun i hi => rat_okT (h _ (nth_mem hi)) (hf _ (nth_mem hi))⟩
/-- what is told is told in numbers -/
theorem enc_small {E : Int} {M n : Nat} {t : Tape} {w : List Int} {I : Nat} (h : TapeOk t w I) {u d : List _root_.Rat} (hl : d.length ≤ w.length) (hE : E ≠ 0) (hE2 : E.natAbs < 4294967296 ^ n) (hM : M < 4294967296 ^ n) (hn : n ≤ 100) (hd : DOk E M w u d) : ref08_All (enc d) (enc d) = some true := by
  have hw := h.len
  have h8 := h.ops8
  have I3 := h.I3
  refine All_same (by rw [enc_len]; omega) (fun x hx => ?_)
  obtain ⟨q, hq, rfl⟩ := List.mem_map.1 hx
  obtain ⟨j, hj, rfl⟩ := List.getElem_of_mem hq
  have := DOk.sz h hl hE hE2 hM hd hj
  rw [nth_get hj] at this
  have o := this.ok
  have a := o.2.2.1
  have b := o.2.2.2
  omega
theorem All_nil : ref08_All [] [] = some true := All_same (by simp) (fun x hx => by cases hx)
theorem alongQ_all {t : Tape} {w : List Int} {I : Nat} (h : TapeOk t w I) {x a : List Rat} (hx : Pt x) (ha : Pt a) : ref08_All (alongQ t I x a).1 (alongQ t I x a).1 = some true := by
  have hw := h.len
  have h8 := h.ops8
  have I3 := h.I3
  unfold alongQ
  by_cases c : x.length = I
  · rw [if_pos c]
    cases hr : evRun t.Ops (qs x) with
    | none => exact All_nil
    | some u =>
      dsimp only
      by_cases k : a.length = I
      · rw [if_pos k]
        have hu := vals_of h hx c hr
        have ul := hu.len
        obtain ⟨z1, z2, z3⟩ := dir_sz ha (by omega)
        have hd := dir_ok ha (w := w) (u := u) (by omega) h.bd (by omega) hu.ok
        obtain ⟨r1, r2, r3, r4⟩ := along_eq h hu z1 z2 z3 (by decide) t.Ops.length 0 FU (qs a) (by omega) (by simp only [FU]; omega) (by rw [qs_len]; omega) hd
        rw [List.drop_zero] at r3 r4
        exact enc_small h (by omega) z1 z2 z3 (by decide) r3
      · rw [if_neg k]; exact All_nil
  · rw [if_neg c]; exact All_nil
theorem SlopeAlong_true (x : Int) (a : List Int) (l : List S_Op_A_B_N) (p : List S_N_D) (d : List Rat) (hx : inRange .u8 x) (ha : a.length ≤ maxLen ∧ ∀ z, z ∈ a → inRange .u8 z)
    (hl : l.length ≤ maxLen ∧ ∀ z, z ∈ l → inRange .u8 z.Op ∧ inRange .u8 z.A_ ∧ inRange .u8 z.B_ ∧ inRange .u8 z.N) (hp : p.length ≤ maxLen ∧ ∀ z, z ∈ p → inRange .i8 z.N ∧ inRange .u8 z.D_)
    (hd : d.length ≤ maxLen ∧ ∀ z, z ∈ d → True ∧ (z.Num.length ≤ maxLen ∧ ∀ y, y ∈ z.Num → inRange .u32 y) ∧ (z.Den.length ≤ maxLen ∧ ∀ y, y ∈ z.Den → inRange .u32 y)) : law16_SlopeAlong x a l p d = some true := by
  have hf := Few_eq (l := d) (max_len hd.1) 1
  have e1 : ((1 : Nat) : Int) = 1 := rfl
  rw [e1] at hf
  by_cases few : ∀ x ∈ d, x.Num.length ≤ 1 ∧ x.Den.length ≤ 1
  · rw [decide_eq_true few] at hf
    simp only [law16_SlopeAlong, awake16, hf, Option.bind_some, Bool.not_true, cond_false]
    by_cases c1 : ((l.length : Nat) : Int) > 8
    · rw [decide_eq_true c1, cond_true]
    rw [decide_eq_false c1, cond_false]
    by_cases c2 : ((a.length : Nat) : Int) > 3
    · rw [decide_eq_true c2, cond_true]
    rw [decide_eq_false c2, cond_false]
    by_cases c3 : ((d.length : Nat) : Int) > 4
    · rw [decide_eq_true c3, cond_true]
    rw [decide_eq_false c3, cond_false]
    obtain ⟨t, w, I, e, h⟩ := ref14_Made_eq (x := x) (a := a) (l := l) hx.1 (fun i hi => u8_in (ha.2 _ (nth_mem hi))) (by omega) (s3_in hl.2) (by omega)
    obtain ⟨y, ey, y1, y2⟩ := point_eq h.I3 (max_len hp.1) hp.2
    have pd := few_pt (by omega) hd.2 few
    obtain ⟨s1, s2⟩ := Along_eq h y2 pd
    have s3 := alongQ_all h y2 pd
    simp only [e, Option.bind_some, h.ins, ey, s1, s2, cond_true, BEq.rfl, s3]
  · rw [decide_eq_false few] at hf
    simp only [law16_SlopeAlong, awake16, hf, Option.bind_some, Bool.not_false, cond_true]
end Go.Ab.M
end

section
/-
  ARGUMENTS AS TYPED DATA (printed by jot.py).
-/
namespace Go.Ab.M
open Go.Proofs Go.Proofs.YtcelliafjmmldaaGreat
set_option linter.unusedVariables false
def tyS_Op_A_B_N : Ty Tryz.prog 132 := Ty.as (Ty.struct Tryz.underlying132 (Flds.cons (Ty.int .u8 Tryz.underlying5) rfl 1 (by kernel_rfl) (Flds.cons (Ty.int .u8 Tryz.underlying5) rfl 1 (by kernel_rfl) (Flds.cons (Ty.int .u8 Tryz.underlying5) rfl 1 (by kernel_rfl) (Flds.last (Ty.int .u8 Tryz.underlying5) rfl (by kernel_rfl))))))
  (fun y => S_Op_A_B_N.mk y.1 y.2.1 y.2.2.1 y.2.2.2) S_Op_A_B_N.D (fun y => inRange .u8 y.Op ∧ inRange .u8 y.A_ ∧ inRange .u8 y.B_ ∧ inRange .u8 y.N) (fun _ => 0) (fun _ => rfl) (fun _ h => h) (fun _ => Nat.zero_le _)
def tyS_N_D : Ty Tryz.prog 146 := Ty.as (Ty.struct Tryz.underlying146 (Flds.cons (Ty.int .i8 Tryz.underlying68) rfl 1 (by kernel_rfl) (Flds.last (Ty.int .u8 Tryz.underlying5) rfl (by kernel_rfl))))
  (fun y => S_N_D.mk y.1 y.2) S_N_D.D (fun y => inRange .i8 y.N ∧ inRange .u8 y.D_) (fun _ => 0) (fun _ => rfl) (fun _ h => h) (fun _ => Nat.zero_le _)
def tyRat : Ty Tryz.prog 71 := Ty.as (Ty.struct Tryz.underlying71 (Flds.cons (Ty.bool Tryz.underlying4) rfl 1 (by kernel_rfl) (Flds.cons (Ty.slice Tryz.underlying69 (Ty.int .u32 Tryz.underlying151) (by decide +kernel) (fun _ => show 1 = _ by kernel_rfl)) rfl 1 (by kernel_rfl) (Flds.last (Ty.slice Tryz.underlying69 (Ty.int .u32 Tryz.underlying151) (by decide +kernel) (fun _ => show 1 = _ by kernel_rfl)) rfl (by kernel_rfl)))))
  (fun y => Rat.mk y.1 y.2.1 y.2.2) Rat.D (fun y => True ∧ (y.Num.length ≤ maxLen ∧ ∀ z, z ∈ y.Num → inRange .u32 z) ∧ (y.Den.length ≤ maxLen ∧ ∀ z, z ∈ y.Den → inRange .u32 z)) (fun _ => 0) (fun _ => rfl) (fun _ h => h) (fun _ => Nat.zero_le _)
end Go.Ab.M
end

section
namespace Go.Proofs.YtcelliafjmmldaaGreat.slopeAlong
open Go.ChangeShapes Go.WideShapes Go.ChangeAt Go.RowKit Go.Ab Go.Ab.M
set_option linter.unusedVariables false

theorem own : ownKnob Tryz.prog.godebug = none := by kernel_rfl

theorem core (a : Int) (b : List Int) (c : List S_Op_A_B_N) (d : List S_N_D) (e : List Go.Ab.M.Rat) (ha : inRange .u8 a) (hb : (b.length ≤ maxLen ∧ ∀ z, z ∈ b → inRange .u8 z)) (hc : (c.length ≤ maxLen ∧ ∀ z, z ∈ c → tyS_Op_A_B_N.ok z)) (hd : (d.length ≤ maxLen ∧ ∀ z, z ∈ d → tyS_N_D.ok z)) (he : (e.length ≤ maxLen ∧ ∀ z, z ∈ e → tyRat.ok z)) : ACallsD Tryz.prog 6 0 [NI .u8 a, SL (cI .u8) b, SL S_Op_A_B_N.D c, SL S_N_D.D d, SL Rat.D e] [] yes [] := law16_SlopeAlong_ok a b c d e true (SlopeAlong_true a b c d e ha hb hc hd he)

set_option maxRecDepth 100000 in
theorem contract (H : Type) (enc : TypeId × Value → H) (W : World) (base : Nat) (args : Array Value) (ds gs : List (DataW H)) (before : List MemPlace)
    (hval : ∀ (j : Nat) t v, Tryz.f6.params[j]? = some t → args[j]? = some v → Value.okWide Tryz.prog W .any base t v)
    (hW : DataW.Whole enc Tryz.prog Tryz.f6.params.toList Rows.slopeAlongSpec.vars false W args.toList ds gs before) :
    Calls Tryz.prog 6 args W fun e W' => ∃ v, e = .returned v ∧ Rows.slopeAlongSpec.post enc Tryz.prog Tryz.f6 false true false false W args v W' :=
  law_contract (tb := 4) (ts := [5, 23, 46, 62, 47]) (Tup.one (Ty.int .u8 Tryz.underlying5) (fun n => .v (.int .u8 n)) (fun _ => rfl) (one_int Tryz.underlying5) (Tup.one (Ty.slice Tryz.underlying23 (Ty.int .u8 Tryz.underlying5) (by decide +kernel) (fun _ => show 1 = _ by kernel_rfl)) (fun l => .sl (l.map (cI .u8))) (fun _ => rfl) (one_slice Tryz.underlying23) (Tup.one (Ty.slice Tryz.underlying46 tyS_Op_A_B_N (by decide +kernel) (fun _ => show 4 = _ by kernel_rfl)) (fun l => .sl (l.map S_Op_A_B_N.D)) (fun _ => rfl) (one_slice Tryz.underlying46) (Tup.one (Ty.slice Tryz.underlying62 tyS_N_D (by decide +kernel) (fun _ => show 2 = _ by kernel_rfl)) (fun l => .sl (l.map S_N_D.D)) (fun _ => rfl) (one_slice Tryz.underlying62) (Tup.one (Ty.slice Tryz.underlying47 tyRat (by decide +kernel) (fun _ => show 3 = _ by kernel_rfl)) (fun l => .sl (l.map Rat.D)) (fun _ => rfl) (one_slice Tryz.underlying47) Tup.nil))))) (by kernel_rfl) (by kernel_rfl) (by kernel_rfl) (by kernel_rfl) Tryz.underlying4 rfl (fun ds h => by
      match ds, h with
      | [d0, d1, d2, d3, d4], _ => rfl) hval hW
    fun y hy _ => core y.1 y.2.1 y.2.2.1 y.2.2.2.1 y.2.2.2.2.1 hy.1 hy.2.1 hy.2.2.1 hy.2.2.2.1 hy.2.2.2.2.1

set_option maxRecDepth 100000 in
theorem lifted (os : Os) (started : os.Started) (H : Type) (enc : TypeId × Value → H) :
    ReturnsInHanded {} Tryz.checked os 6 .any (Rows.slopeAlongSpec.pre6 enc Tryz.prog Tryz.f6 Rows.slopeAlongRow.domain false) (Rows.slopeAlongSpec.post enc Tryz.prog Tryz.f6 false true false false) := by
  refine returnsInHanded_of_change (C := Tryz.checked) own started (by kernel_rfl) Tryz.func6
    (ChangeSpec.witness6 (enc := enc) (C := Tryz.checked) false ⟨#[], #[.int .u8 0, .slice none 0 0, .slice none 0 0, .slice none 0 0, .slice none 0 0], []⟩ 8 (by kernel_rfl) (by kernel_rfl) (by kernel_rfl) (by kernel_rfl)) ?_
  intro W base args ds gs before hval hW _ _
  exact contract H enc W base args ds gs before hval hW

theorem fact0 : (Rows.slopeAlongRow.wf (OpenSpec.ofChange Rows.slopeAlongSpec)) = true := by kernel_rfl
theorem fact1 : (laidOutB Tryz.prog) = true := by kernel_rfl
theorem fact2 : (mapsRowed Tryz.prog) = true := by kernel_rfl
theorem fact3 : (Tryz.f6.params.all (Tryz.prog.readableRec ·)) = true := by kernel_rfl
theorem fact4 : (namedTie Tryz.prog Rows.slopeAlongRow.named Rows.slopeAlongSpec.vars) = true := by kernel_rfl
theorem fact5 : ((Rows.slopeAlongRow.stops == [])) = true := by kernel_rfl
theorem fact6 : ((Tryz.prog.stops == [])) = true := by kernel_rfl
theorem fact7 : ((Rows.slopeAlongRow.knobs == [])) = true := by kernel_rfl
theorem fact8 : ((Tryz.prog.stopKnobs == [])) = true := by kernel_rfl
theorem fact9 : ((Rows.slopeAlongRow.inPlace == Tryz.prog.inPlace 6)) = true := by kernel_rfl
theorem fact10 : ((Rows.slopeAlongRow.unfollowed == Tryz.prog.unfollowed 6)) = true := by kernel_rfl
theorem fact11 : ((Rows.slopeAlongRow.recurses == Tryz.prog.recurses 6)) = true := by kernel_rfl
theorem fact12 : ((Rows.slopeAlongRow.named == Tryz.prog.varsNamed 6)) = true := by kernel_rfl
theorem fact13 : ((Rows.slopeAlongRow.maps == (Tryz.f6.params.toList ++ Rows.slopeAlongSpec.plain.varTypes Tryz.prog).any (Tryz.prog.mapsRec ·))) = true := by kernel_rfl
theorem fact14 : ((Rows.slopeAlongRow.ifaces == (Tryz.f6.params.toList ++ Rows.slopeAlongSpec.plain.varTypes Tryz.prog).any (Tryz.prog.ifacesRec ·))) = true := by kernel_rfl
theorem fact15 : ((Rows.slopeAlongRow.mapsOut == Tryz.prog.mapsAmong Tryz.f6.resultTypes.toList)) = true := by kernel_rfl
theorem fact16 : ((Rows.slopeAlongRow.loops == (Tryz.f6.params.toList ++ Rows.slopeAlongSpec.plain.varTypes Tryz.prog).any (Tryz.prog.loopsFrom ·))) = true := by kernel_rfl
theorem fact17 : ((Rows.slopeAlongRow.wideKeys == (Tryz.f6.params.toList ++ Rows.slopeAlongSpec.plain.varTypes Tryz.prog ++ Tryz.f6.resultTypes.toList).any (Tryz.prog.wideKeysFrom ·))) = true := by kernel_rfl
theorem fact18 : (Rows.slopeAlongSpec.vars.all (Tryz.prog.varReadable ·)) = true := by kernel_rfl
theorem fact19 : (Tryz.f6.resultTypes.all (fun t => Tryz.prog.readableRec t && decide (t < Tryz.prog.types.size))) = true := by kernel_rfl
theorem fact20 : ((Rows.slopeAlongRow.ifacesOut == Tryz.f6.resultTypes.toList.any (Tryz.prog.ifacesRec ·))) = true := by kernel_rfl
theorem fact21 : ((Rows.slopeAlongRow.loopsOut == Tryz.f6.resultTypes.toList.any (Tryz.prog.loopsFrom ·))) = true := by kernel_rfl
theorem fact22 : ((Rows.slopeAlongRow.plainKeys == Tryz.prog.plainKeys)) = true := by kernel_rfl
theorem fact23 : (Rows.slopeAlongRow.shortTexts.isNone) = true := by kernel_rfl
theorem fact24 : (Tryz.prog.stopsHeard) = true := by kernel_rfl
theorem fact25 : (Tryz.prog.mayEnter) = true := by kernel_rfl
theorem fact26 : ((Rows.slopeAlongRow.lifted == Tryz.prog.liftsFinal)) = true := by kernel_rfl
theorem fact27 : ((Tryz.prog.make == some Rows.slopeAlongRow.make)) = true := by kernel_rfl
theorem fact28 : ((Rows.slopeAlongRow.kinds == (if Rows.slopeAlongRow.domain.isEmpty then [] else Tryz.f6.params.toList.map fun t => match Tryz.prog.underlying t with | some (.int k) => some k | _ => none))) = true := by kernel_rfl
theorem fact29 : ((Rows.slopeAlongRow.pinned == Rows.slopeAlongRow.pinnedBy)) = true := by kernel_rfl
theorem fact30 : ((Rows.slopeAlongRow.veiled == (Tryz.f6.params.toList ++ Rows.slopeAlongSpec.plain.varTypes Tryz.prog ++ Tryz.f6.resultTypes.toList).any (Tryz.prog.veiledRec ·))) = true := by kernel_rfl
theorem fact31 : (Rows.slopeAlongRow.veiledFits Tryz.prog Tryz.f6.params.toList (Tryz.f6.params.toList ++ Rows.slopeAlongSpec.plain.varTypes Tryz.prog ++ Tryz.f6.resultTypes.toList)) = true := by kernel_rfl
theorem and_t {a b : Bool} (h : a = true) (k : b = true) : (a && b) = true := by rw [h, k]; rfl
set_option maxRecDepth 100000 in
theorem closed : joinedFacts Tryz.prog 6 Tryz.f6 Rows.slopeAlongSpec Rows.slopeAlongRow = true := by
  unfold joinedFacts
  exact and_t (and_t (and_t (and_t (and_t (and_t (and_t (and_t (and_t (and_t (and_t (and_t (and_t (and_t (and_t (and_t (and_t (and_t (and_t (and_t (and_t (and_t (and_t (and_t (and_t (and_t (and_t (and_t (and_t (and_t (and_t (fact0) fact1) fact2) fact3) fact4) fact5) fact6) fact7) fact8) fact9) fact10) fact11) fact12) fact13) fact14) fact15) fact16) fact17) fact18) fact19) fact20) fact21) fact22) fact23) fact24) fact25) fact26) fact27) fact28) fact29) fact30) fact31

theorem over : Rows.slopeAlongRow.holds Tryz.pinned (OpenSpec.ofChange Rows.slopeAlongSpec) :=
  OpenClaim.holds_of_wide 6 Tryz.f6 rfl rfl rfl rfl rfl rfl rfl ⟨rfl, rfl, rfl, rfl, rfl⟩ rfl rfl rfl rfl rfl (by kernel_rfl) Tryz.func6 closed
    (of_decide_eq_true (by kernel_rfl)) (by unfold Func.isWrapper; first | (rw [if_pos (by decide +kernel)]; kernel_rfl) | (rw [if_neg (by decide +kernel)]; exact ⟨rfl, rfl⟩))
    (fun os started H enc _ => lifted os started H enc)

theorem proved : Rows.SlopeAlongSaid :=
  over
end Go.Proofs.YtcelliafjmmldaaGreat.slopeAlong
end
