/-
  THE LAW 'VertexOrders' HOLDS AT EVERY INPUT.
  Conditions: none.
-/
import Derived.Test.YthikenallhbkpaaGreatLwVertexOrders
import Derived.Test.YthikenallhbkpaaGreatPR
section
/-
  PLAIN LAW: WHAT COMES OF VERTICES THAT GO ONE BEHIND THE OTHER IS AS THE DOCUMENT SAYS.
-/
namespace Go.Ab.M
open Go.Proofs Go.Ab
set_option linter.unusedVariables false
theorem VertexOrders_true (x y z : Int) (l : List Link) (order : List Int) {T : Prop} (hx : inRange .u8 x) (hy : inRange .u8 y) (hz : inRange .u8 z) (hl : l.length ≤ maxLen ∧ ∀ z, z ∈ l → inRange .u8 z.From ∧ inRange .u8 z.To ∧ inRange .i8 z.N ∧ inRange .u8 z.D_) (ho : T) : law18_VertexOrders x y z l order = some true := by
  by_cases h30 : ((l.length : Nat) : Int) > 30
  · simp only [law18_VertexOrders, awake18, Option.bind_some, Bool.cond_decide, if_pos h30]
  · by_cases h8 : ((order.length : Nat) : Int) > 8
    · simp only [law18_VertexOrders, awake18, Option.bind_some, Bool.cond_decide, if_neg h30, if_pos h8]
    · obtain ⟨I, M, O, ⟨i1, i2, m2, o1, o2, -⟩, hm, -⟩ := made_all hx hy hz (links_ok hl.2) (by omega)
      have h := mk_inv (links_ok hl.2) i1 i2 m2 o1 o2
      generalize mkGraph I M O l = g at *
      have p := prog_All h (order := order) (by omega)
      have r := ref_All h (order := order) (by omega)
      have s := allR_same h order
      simp only [law18_VertexOrders, awake18, hm, p, r, s, Option.bind_some, Bool.cond_decide, if_neg h30, if_neg h8, cond_true, BEq.rfl, if_true]
end Go.Ab.M
end

section
/-
  ARGUMENTS AS TYPED DATA (printed by jot.py).
-/
namespace Go.Ab.M
open Go.Proofs Go.Proofs.YthikenallhbkpaaGreat
set_option linter.unusedVariables false
def tyLink : Ty Tryz.prog 96 := Ty.as (Ty.struct Tryz.underlying96 (Flds.cons (Ty.int .u8 Tryz.underlying5) rfl 1 (by kernel_rfl) (Flds.cons (Ty.int .u8 Tryz.underlying5) rfl 1 (by kernel_rfl) (Flds.cons (Ty.int .i8 Tryz.underlying94) rfl 1 (by kernel_rfl) (Flds.last (Ty.int .u8 Tryz.underlying5) rfl (by kernel_rfl))))))
  (fun y => Link.mk y.1 y.2.1 y.2.2.1 y.2.2.2) Link.D (fun y => inRange .u8 y.From ∧ inRange .u8 y.To ∧ inRange .i8 y.N ∧ inRange .u8 y.D_) (fun _ => 0) (fun _ => rfl) (fun _ h => h) (fun _ => Nat.zero_le _)
end Go.Ab.M
end

section
namespace Go.Proofs.YthikenallhbkpaaGreat.vertexOrders
open Go.ChangeShapes Go.WideShapes Go.ChangeAt Go.RowKit Go.Ab Go.Ab.M
set_option linter.unusedVariables false

theorem own : ownKnob Tryz.prog.godebug = none := by kernel_rfl

theorem core (a : Int) (b : Int) (c : Int) (d : List Link) (e : List Int) (ha : inRange .u8 a) (hb : inRange .u8 b) (hc : inRange .u8 c) (hd : (d.length ≤ maxLen ∧ ∀ z, z ∈ d → tyLink.ok z)) (he : (e.length ≤ maxLen ∧ ∀ z, z ∈ e → inRange .i64 z)) : ACallsD Tryz.prog 8 0 [NI .u8 a, NI .u8 b, NI .u8 c, SL Link.D d, SL (cI .i64) e] [] yes [] := law18_VertexOrders_ok a b c d e true (VertexOrders_true a b c d e ha hb hc hd he)

set_option maxRecDepth 100000 in
theorem contract (H : Type) (enc : TypeId × Value → H) (W : World) (base : Nat) (args : Array Value) (ds gs : List (DataW H)) (before : List MemPlace)
    (hval : ∀ (j : Nat) t v, Tryz.f8.params[j]? = some t → args[j]? = some v → Value.okWide Tryz.prog W .any base t v)
    (hW : DataW.Whole enc Tryz.prog Tryz.f8.params.toList Rows.vertexOrdersSpec.vars false W args.toList ds gs before) :
    Calls Tryz.prog 8 args W fun e W' => ∃ v, e = .returned v ∧ Rows.vertexOrdersSpec.post enc Tryz.prog Tryz.f8 false true false false W args v W' :=
  law_contract (tb := 4) (ts := [5, 5, 5, 37, 23]) (Tup.one (Ty.int .u8 Tryz.underlying5) (fun n => .v (.int .u8 n)) (fun _ => rfl) (one_int Tryz.underlying5) (Tup.one (Ty.int .u8 Tryz.underlying5) (fun n => .v (.int .u8 n)) (fun _ => rfl) (one_int Tryz.underlying5) (Tup.one (Ty.int .u8 Tryz.underlying5) (fun n => .v (.int .u8 n)) (fun _ => rfl) (one_int Tryz.underlying5) (Tup.one (Ty.slice Tryz.underlying37 tyLink (by decide +kernel) (fun _ => show 4 = _ by kernel_rfl)) (fun l => .sl (l.map Link.D)) (fun _ => rfl) (one_slice Tryz.underlying37) (Tup.one (Ty.slice Tryz.underlying23 (Ty.int .i64 Tryz.underlying3) (by decide +kernel) (fun _ => show 1 = _ by kernel_rfl)) (fun l => .sl (l.map (cI .i64))) (fun _ => rfl) (one_slice Tryz.underlying23) Tup.nil))))) (by kernel_rfl) (by kernel_rfl) (by kernel_rfl) (by kernel_rfl) Tryz.underlying4 rfl (fun ds h => by
      match ds, h with
      | [d0, d1, d2, d3, d4], _ => rfl) hval hW
    fun y hy _ => core y.1 y.2.1 y.2.2.1 y.2.2.2.1 y.2.2.2.2.1 hy.1 hy.2.1 hy.2.2.1 hy.2.2.2.1 hy.2.2.2.2.1

set_option maxRecDepth 100000 in
theorem lifted (os : Os) (started : os.Started) (H : Type) (enc : TypeId × Value → H) :
    ReturnsInHanded {} Tryz.checked os 8 .any (Rows.vertexOrdersSpec.pre6 enc Tryz.prog Tryz.f8 Rows.vertexOrdersRow.domain false) (Rows.vertexOrdersSpec.post enc Tryz.prog Tryz.f8 false true false false) := by
  refine returnsInHanded_of_change (C := Tryz.checked) own started (by kernel_rfl) Tryz.func8
    (ChangeSpec.witness6 (enc := enc) (C := Tryz.checked) false ⟨#[], #[.int .u8 0, .int .u8 0, .int .u8 0, .slice none 0 0, .slice none 0 0], []⟩ 8 (by kernel_rfl) (by kernel_rfl) (by kernel_rfl) (by kernel_rfl)) ?_
  intro W base args ds gs before hval hW _ _
  exact contract H enc W base args ds gs before hval hW

theorem over : Rows.vertexOrdersRow.holds Tryz.pinned (OpenSpec.ofChange Rows.vertexOrdersSpec) :=
  OpenClaim.holds_of_wide 8 Tryz.f8 rfl rfl rfl rfl rfl rfl rfl ⟨rfl, rfl, rfl, rfl, rfl⟩ rfl rfl rfl rfl rfl (by kernel_rfl) Tryz.func8 (by kernel_rfl)
    (of_decide_eq_true (by kernel_rfl)) (by unfold Func.isWrapper; first | (rw [if_pos (by decide +kernel)]; kernel_rfl) | (rw [if_neg (by decide +kernel)]; exact ⟨rfl, rfl⟩))
    (fun os started H enc _ => lifted os started H enc)

theorem proved : Rows.VertexOrdersSaid :=
  over
end Go.Proofs.YthikenallhbkpaaGreat.vertexOrders
end
