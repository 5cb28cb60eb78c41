/-
  THE LAW 'VertexTells' HOLDS AT EVERY INPUT.
  Conditions: none.
-/
import Derived.Test.YthikenallhbkpaaGreatLwVertexTells
import Derived.Test.YthikenallhbkpaaGreatPO
section
/-
  PLAIN LAW: WHAT COMES OF ANY VERTEX IS AS THE DOCUMENT SAYS.
-/
namespace Go.Ab.M
open Go.Proofs Go.Ab
set_option linter.unusedVariables false
/-- labels that come in are words -/
def RatIn (x : Rat) : Prop := True ∧ (x.Num.length ≤ maxLen ∧ ∀ z, z ∈ x.Num → inRange .u32 z) ∧ (x.Den.length ≤ maxLen ∧ ∀ z, z ∈ x.Den → inRange .u32 z)
theorem RatIn.ok {x : Rat} {n : Nat} (h : RatIn x) (k : x.Num.length ≤ n ∧ x.Den.length ≤ n) : okL n x :=
  ⟨fun z hz => ⟨(h.2.1.2 z hz).1, Int.lt_of_le_of_lt (h.2.1.2 z hz).2 (by decide)⟩, fun z hz => ⟨(h.2.2.2 z hz).1, Int.lt_of_le_of_lt (h.2.2.2 z hz).2 (by decide)⟩, k.1, k.2⟩
def GraphIn (g : Graph) : Prop := inRange .i64 g.Ins ∧ inRange .i64 g.Mids ∧ inRange .i64 g.Outs ∧ (g.Edges.length ≤ maxLen ∧ ∀ z, z ∈ g.Edges → inRange .i64 z.From ∧ inRange .i64 z.To ∧ RatIn z.W) ∧ (g.Gone.length ≤ maxLen ∧ ∀ z, z ∈ g.Gone → inRange .i64 z)
theorem GraphIn.ok {g : Graph} (h : GraphIn g) (hf : fewG g) : g.Ok 2 := by
  obtain ⟨f1, f2, f3, f4, f5, f6⟩ := hf
  exact ⟨fun i hi => (h.2.2.2.1.2 _ (nth_mem hi)).2.2.ok (f6 _ (nth_mem hi)), by omega, by omega⟩
theorem VertexTells_true (g : Graph) (v : Int) {T : Prop} (hg : GraphIn g) (hv : T) : law18_VertexTells g v = some true := by
  by_cases hf : fewG g
  · have ok := hg.ok hf
    have few := (ref17_Few_eq g).1 hf
    have f5 : g.Gone.length ≤ 10 := hf.2.2.2.2.1
    have a1 := prog_elimR ok (by decide) (by decide) v (by omega)
    have a2 := ref_elimR ok (by decide) (by decide) v
    have a3 := elim_same ok (by decide) (by decide) v
    have a4 := vertex_Can_eq (n := 2) (by decide) ok v
    have a5 := ref18_Can_eq ok (by decide) (by decide) v
    have a6 := vertex_Cost_eq (s := 2) ok (by decide) v
    simp only [law18_VertexTells, awake18, few, a1, a2, a3, a4, a5, a6, Option.bind_some, Bool.not_true, cond_false, cond_true, BEq.rfl]
  · have few := (ref17_Few_eq g).2 hf
    simp only [law18_VertexTells, awake18, few, Option.bind_some, Bool.not_false, cond_true]
end Go.Ab.M
end

section
/-
  ARGUMENTS AS TYPED DATA (printed by jot.py).
-/
namespace Go.Ab.M
open Go.Proofs Go.Proofs.YthikenallhbkpaaGreat
set_option linter.unusedVariables false
def tyRat : Ty Tryz.prog 41 := Ty.as (Ty.struct Tryz.underlying41 (Flds.cons (Ty.bool Tryz.underlying4) rfl 1 (by kernel_rfl) (Flds.cons (Ty.slice Tryz.underlying39 (Ty.int .u32 Tryz.underlying145) (by decide +kernel) (fun _ => show 1 = _ by kernel_rfl)) rfl 1 (by kernel_rfl) (Flds.last (Ty.slice Tryz.underlying39 (Ty.int .u32 Tryz.underlying145) (by decide +kernel) (fun _ => show 1 = _ by kernel_rfl)) rfl (by kernel_rfl)))))
  (fun y => Rat.mk y.1 y.2.1 y.2.2) Rat.D (fun y => True ∧ (y.Num.length ≤ maxLen ∧ ∀ z, z ∈ y.Num → inRange .u32 z) ∧ (y.Den.length ≤ maxLen ∧ ∀ z, z ∈ y.Den → inRange .u32 z)) (fun _ => 0) (fun _ => rfl) (fun _ h => h) (fun _ => Nat.zero_le _)
def tyEdge : Ty Tryz.prog 43 := Ty.as (Ty.struct Tryz.underlying43 (Flds.cons (Ty.int .i64 Tryz.underlying3) rfl 1 (by kernel_rfl) (Flds.cons (Ty.int .i64 Tryz.underlying3) rfl 1 (by kernel_rfl) (Flds.last tyRat rfl (by kernel_rfl)))))
  (fun y => Edge.mk y.1 y.2.1 y.2.2) Edge.D (fun y => inRange .i64 y.From ∧ inRange .i64 y.To ∧ tyRat.ok y.W) (fun _ => 0) (fun _ => rfl) (fun _ h => h) (fun _ => Nat.zero_le _)
def tyGraph : Ty Tryz.prog 25 := Ty.as (Ty.struct Tryz.underlying25 (Flds.cons (Ty.int .i64 Tryz.underlying3) rfl 1 (by kernel_rfl) (Flds.cons (Ty.int .i64 Tryz.underlying3) rfl 1 (by kernel_rfl) (Flds.cons (Ty.int .i64 Tryz.underlying3) rfl 1 (by kernel_rfl) (Flds.cons (Ty.slice Tryz.underlying22 tyEdge (by decide +kernel) (fun _ => show 5 = _ by kernel_rfl)) rfl 1 (by kernel_rfl) (Flds.last (Ty.slice Tryz.underlying23 (Ty.int .i64 Tryz.underlying3) (by decide +kernel) (fun _ => show 1 = _ by kernel_rfl)) rfl (by kernel_rfl)))))))
  (fun y => Graph.mk y.1 y.2.1 y.2.2.1 y.2.2.2.1 y.2.2.2.2) Graph.D (fun y => inRange .i64 y.Ins ∧ inRange .i64 y.Mids ∧ inRange .i64 y.Outs ∧ (y.Edges.length ≤ maxLen ∧ ∀ z, z ∈ y.Edges → tyEdge.ok z) ∧ (y.Gone.length ≤ maxLen ∧ ∀ z, z ∈ y.Gone → inRange .i64 z)) (fun _ => 0) (fun _ => rfl) (fun _ h => h) (fun _ => Nat.zero_le _)
end Go.Ab.M
end

section
namespace Go.Proofs.YthikenallhbkpaaGreat.vertexTells
open Go.ChangeShapes Go.WideShapes Go.ChangeAt Go.RowKit Go.Ab Go.Ab.M
set_option linter.unusedVariables false

theorem own : ownKnob Tryz.prog.godebug = none := by kernel_rfl

theorem core (a : Graph) (b : Int) (ha : tyGraph.ok a) (hb : inRange .i64 b) : ACallsD Tryz.prog 7 0 [AG Graph.D a, I b] [] yes [] := law18_VertexTells_ok a b true (VertexTells_true a b ha hb)

set_option maxRecDepth 100000 in
theorem contract (H : Type) (enc : TypeId × Value → H) (W : World) (base : Nat) (args : Array Value) (ds gs : List (DataW H)) (before : List MemPlace)
    (hval : ∀ (j : Nat) t v, Tryz.f7.params[j]? = some t → args[j]? = some v → Value.okWide Tryz.prog W .any base t v)
    (hW : DataW.Whole enc Tryz.prog Tryz.f7.params.toList Rows.vertexTellsSpec.vars false W args.toList ds gs before) :
    Calls Tryz.prog 7 args W fun e W' => ∃ v, e = .returned v ∧ Rows.vertexTellsSpec.post enc Tryz.prog Tryz.f7 false true false false W args v W' :=
  law_contract (tb := 4) (ts := [25, 3]) (Tup.agg tyGraph (by kernel_rfl) (Tup.one (Ty.int .i64 Tryz.underlying3) (fun n => .v (.int .i64 n)) (fun _ => rfl) (one_int Tryz.underlying3) Tup.nil)) (by kernel_rfl) (by kernel_rfl) (by kernel_rfl) (by kernel_rfl) Tryz.underlying4 rfl (fun ds h => by
      match ds, h with
      | [d0, d1], _ => rfl) hval hW
    fun y hy _ => core y.1 y.2.1 hy.1 hy.2.1

set_option maxRecDepth 100000 in
theorem lifted (os : Os) (started : os.Started) (H : Type) (enc : TypeId × Value → H) :
    ReturnsInHanded {} Tryz.checked os 7 .any (Rows.vertexTellsSpec.pre6 enc Tryz.prog Tryz.f7 Rows.vertexTellsRow.domain false) (Rows.vertexTellsSpec.post enc Tryz.prog Tryz.f7 false true false false) := by
  refine returnsInHanded_of_change (C := Tryz.checked) own started (by kernel_rfl) Tryz.func7
    (ChangeSpec.witness6 (enc := enc) (C := Tryz.checked) false ⟨#[], #[.agg #[.int .i64 0, .int .i64 0, .int .i64 0, .slice none 0 0, .slice none 0 0], .int .i64 0], []⟩ 8 (by kernel_rfl) (by kernel_rfl) (by kernel_rfl) (by kernel_rfl)) ?_
  intro W base args ds gs before hval hW _ _
  exact contract H enc W base args ds gs before hval hW

theorem over : Rows.vertexTellsRow.holds Tryz.pinned (OpenSpec.ofChange Rows.vertexTellsSpec) :=
  OpenClaim.holds_of_wide 7 Tryz.f7 rfl rfl rfl rfl rfl rfl rfl ⟨rfl, rfl, rfl, rfl, rfl⟩ rfl rfl rfl rfl rfl (by kernel_rfl) Tryz.func7 (by kernel_rfl)
    (of_decide_eq_true (by kernel_rfl)) (by unfold Func.isWrapper; first | (rw [if_pos (by decide +kernel)]; kernel_rfl) | (rw [if_neg (by decide +kernel)]; exact ⟨rfl, rfl⟩))
    (fun os started H enc _ => lifted os started H enc)

theorem proved : Rows.VertexTellsSaid :=
  over
end Go.Proofs.YthikenallhbkpaaGreat.vertexTells
end
