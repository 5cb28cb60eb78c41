/-
  THE LAW 'OrderEach' HOLDS AT EVERY INPUT.
  Conditions: none.
-/
import Derived.Test.YtmnmghjbkopjoaaGreatLwOrderEach
import Derived.Test.YtmnmghjbkopjoaaGreatPE
import Derived.Test.YtmnmghjbkopjoaaGreatPB
section
/-
  PLAIN LAW: EACH RULE'S ORDER HAS EVERY MID JUST ONCE.
-/
section
namespace Go.Ab.M
set_option maxRecDepth 100000
theorem awake23e : law23_awake = some true := by kernel_rfl
end Go.Ab.M
end
namespace Go.Ab.M
set_option linter.unusedVariables false
set_option linter.unusedSimpArgs false
theorem OrderEach_at {x y z w : Int} {l : List Link} (hx : 0 ≤ x) (hx2 : x ≤ 255) (hy : 0 ≤ y) (hy2 : y ≤ 255) (hz : 0 ≤ z) (hz2 : z ≤ 255) (hl : LinksOk l) : law23_OrderEach x y z l w = some true := by
  by_cases h30 : ((l.length : Nat) : Int) > 30
  · simp only [law23_OrderEach, awake23e, Option.bind_some, Bool.cond_decide, if_pos h30]
  · have hm := Made_eq (x := x) (y := y) (z := z) (I := (1 + x % 3).toNat) (M := (y % 6).toNat) (O := (1 + z % 3).toNat) hx hy hz (by omega) (by omega) (by omega) hl (by omega)
    obtain ⟨I, hI⟩ : ∃ I, I = (1 + x % 3).toNat := ⟨_, rfl⟩
    obtain ⟨M, hM⟩ : ∃ M, M = (y % 6).toNat := ⟨_, rfl⟩
    obtain ⟨O, hO⟩ : ∃ O, O = (1 + z % 3).toNat := ⟨_, rfl⟩
    rw [← hI, ← hM, ← hO] at hm
    obtain ⟨s1, s2, s3, s4⟩ := mk_shape (I := I) (M := M) (O := O) hl (by omega) (by omega) (by omega) (by omega) (by omega)
    have hM5 : (mkGraph I M O l).shape.Mids = (M : Int) := rfl
    generalize (mkGraph I M O l).shape = s at *
    have hnn : s.n * s.n ≤ 1000 := Nat.le_trans (Nat.mul_le_mul s4 s4) (by decide)
    have hb := order_By_eq (s := s) (by omega) hnn w
    have hs := right_sized s2
    simp only [law23_OrderEach, awake23e, Option.bind_some, Bool.cond_decide, if_neg h30, hm, s1, hb, cond_true]
    by_cases q1 : w < 1
    · rw [if_pos q1]
      have e : s.by_ w = ([], 1) := by
        unfold Shape.by_
        rw [if_pos s2, if_neg (by omega), if_neg (by omega), if_neg (by omega), if_neg (by omega)]
      rw [e]; rfl
    · rw [if_neg q1]
      by_cases q2 : w > 4
      · rw [if_pos q2]
        have e : s.by_ w = ([], 1) := by
          unfold Shape.by_
          rw [if_pos s2, if_neg (by omega), if_neg (by omega), if_neg (by omega), if_neg (by omega)]
        rw [e]; rfl
      · rw [if_neg q2]
        obtain ⟨p1, p2⟩ := by_perm s2 (way := w) (by omega)
        obtain ⟨m1, m2⟩ := mids_len s2
        have hlen : (s.by_ w).1.length ≤ 12 := by rw [p2.length_eq]; omega
        have hE : eachB s.Ins s.Mids.toNat (s.by_ w).1 = true := by simp only [eachB, decide_eq_true_eq]; exact p2
        have hall := shape_All_eq (s := s) (by omega) (o := (s.by_ w).1) hlen
        have hA : s.all (s.by_ w).1 = ((stepsOf s (s.by_ w).1 (s.by_ w).1.length).1, 0) := by
          unfold Shape.all
          rw [if_pos s2, if_pos hE]
        obtain ⟨-, k1, -⟩ := steps_le (s := s) (by omega) (s.by_ w).1 (s.by_ w).1.length
        rw [hA] at hall
        have hea := Each_eq (o := (s.by_ w).1) (f := s.Ins) (m := s.Mids) (by omega) (by omega) (by omega) (by omega)
        rw [hE] at hea
        simp only [hall, hea, Option.bind_some, p1, BEq.rfl, cond_true, if_pos k1]
theorem OrderEach_true (a b c : Int) (d : List Link) (e : Int) (ha : inRange .u8 a) (hb : inRange .u8 b) (hc : inRange .u8 c) (hd : d.length ≤ maxLen ∧ ∀ z, z ∈ d → inRange .u8 z.From ∧ inRange .u8 z.To ∧ inRange .i8 z.N ∧ inRange .u8 z.D_) (he : inRange .i64 e) : law23_OrderEach a b c d e = some true :=
  OrderEach_at ha.1 ha.2 hb.1 hb.2 hc.1 hc.2 (links_ok hd.2)
end Go.Ab.M
end

section
/-
  ARGUMENTS AS TYPED DATA (printed by jot.py).
-/
namespace Go.Ab.M
open Go.Proofs Go.Proofs.YtmnmghjbkopjoaaGreat
set_option linter.unusedVariables false
def tyLink : Ty Tryz.prog 105 := Ty.as (Ty.struct Tryz.underlying105 (Flds.cons (Ty.int .u8 Tryz.underlying5) rfl 1 (by kernel_rfl) (Flds.cons (Ty.int .u8 Tryz.underlying5) rfl 1 (by kernel_rfl) (Flds.cons (Ty.int .i8 Tryz.underlying103) rfl 1 (by kernel_rfl) (Flds.last (Ty.int .u8 Tryz.underlying5) rfl (by kernel_rfl))))))
  (fun y => Link.mk y.1 y.2.1 y.2.2.1 y.2.2.2) Link.D (fun y => inRange .u8 y.From ∧ inRange .u8 y.To ∧ inRange .i8 y.N ∧ inRange .u8 y.D_) (fun _ => 0) (fun _ => rfl) (fun _ h => h) (fun _ => Nat.zero_le _)
end Go.Ab.M
end

section
namespace Go.Proofs.YtmnmghjbkopjoaaGreat.orderEach
open Go.ChangeShapes Go.WideShapes Go.ChangeAt Go.RowKit Go.Ab Go.Ab.M
set_option linter.unusedVariables false

theorem own : ownKnob Tryz.prog.godebug = none := by kernel_rfl

theorem core (a : Int) (b : Int) (c : Int) (d : List Link) (e : Int) (ha : inRange .u8 a) (hb : inRange .u8 b) (hc : inRange .u8 c) (hd : (d.length ≤ maxLen ∧ ∀ z, z ∈ d → tyLink.ok z)) (he : inRange .i64 e) : ACallsD Tryz.prog 6 0 [NI .u8 a, NI .u8 b, NI .u8 c, SL Link.D d, I e] [] yes [] := law23_OrderEach_ok a b c d e true (OrderEach_true a b c d e ha hb hc hd he)

set_option maxRecDepth 100000 in
theorem contract (H : Type) (enc : TypeId × Value → H) (W : World) (base : Nat) (args : Array Value) (ds gs : List (DataW H)) (before : List MemPlace)
    (hval : ∀ (j : Nat) t v, Tryz.f6.params[j]? = some t → args[j]? = some v → Value.okWide Tryz.prog W .any base t v)
    (hW : DataW.Whole enc Tryz.prog Tryz.f6.params.toList Rows.orderEachSpec.vars false W args.toList ds gs before) :
    Calls Tryz.prog 6 args W fun e W' => ∃ v, e = .returned v ∧ Rows.orderEachSpec.post enc Tryz.prog Tryz.f6 false true false false W args v W' :=
  law_contract (tb := 4) (ts := [5, 5, 5, 37, 3]) (Tup.one (Ty.int .u8 Tryz.underlying5) (fun n => .v (.int .u8 n)) (fun _ => rfl) (one_int Tryz.underlying5) (Tup.one (Ty.int .u8 Tryz.underlying5) (fun n => .v (.int .u8 n)) (fun _ => rfl) (one_int Tryz.underlying5) (Tup.one (Ty.int .u8 Tryz.underlying5) (fun n => .v (.int .u8 n)) (fun _ => rfl) (one_int Tryz.underlying5) (Tup.one (Ty.slice Tryz.underlying37 tyLink (by decide +kernel) (fun _ => show 4 = _ by kernel_rfl)) (fun l => .sl (l.map Link.D)) (fun _ => rfl) (one_slice Tryz.underlying37) (Tup.one (Ty.int .i64 Tryz.underlying3) (fun n => .v (.int .i64 n)) (fun _ => rfl) (one_int Tryz.underlying3) Tup.nil))))) (by kernel_rfl) (by kernel_rfl) (by kernel_rfl) (by kernel_rfl) Tryz.underlying4 rfl (fun ds h => by
      match ds, h with
      | [d0, d1, d2, d3, d4], _ => rfl) hval hW
    fun y hy _ => core y.1 y.2.1 y.2.2.1 y.2.2.2.1 y.2.2.2.2.1 hy.1 hy.2.1 hy.2.2.1 hy.2.2.2.1 hy.2.2.2.2.1

set_option maxRecDepth 100000 in
theorem lifted (os : Os) (started : os.Started) (H : Type) (enc : TypeId × Value → H) :
    ReturnsInHanded {} Tryz.checked os 6 .any (Rows.orderEachSpec.pre6 enc Tryz.prog Tryz.f6 Rows.orderEachRow.domain false) (Rows.orderEachSpec.post enc Tryz.prog Tryz.f6 false true false false) := by
  refine returnsInHanded_of_change (C := Tryz.checked) own started (by kernel_rfl) Tryz.func6
    (ChangeSpec.witness6 (enc := enc) (C := Tryz.checked) false ⟨#[], #[.int .u8 0, .int .u8 0, .int .u8 0, .slice none 0 0, .int .i64 0], []⟩ 8 (by kernel_rfl) (by kernel_rfl) (by kernel_rfl) (by kernel_rfl)) ?_
  intro W base args ds gs before hval hW _ _
  exact contract H enc W base args ds gs before hval hW

theorem over : Rows.orderEachRow.holds Tryz.pinned (OpenSpec.ofChange Rows.orderEachSpec) :=
  OpenClaim.holds_of_wide 6 Tryz.f6 rfl rfl rfl rfl rfl rfl rfl ⟨rfl, rfl, rfl, rfl, rfl⟩ rfl rfl rfl rfl rfl (by kernel_rfl) Tryz.func6 (by kernel_rfl)
    (of_decide_eq_true (by kernel_rfl)) (by unfold Func.isWrapper; first | (rw [if_pos (by decide +kernel)]; kernel_rfl) | (rw [if_neg (by decide +kernel)]; exact ⟨rfl, rfl⟩))
    (fun os started H enc _ => lifted os started H enc)

theorem proved : Rows.OrderEachSaid :=
  over
end Go.Proofs.YtmnmghjbkopjoaaGreat.orderEach
end
