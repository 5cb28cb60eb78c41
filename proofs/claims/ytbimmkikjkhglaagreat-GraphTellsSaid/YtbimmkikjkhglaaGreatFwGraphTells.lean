/-
  THE LAW 'GraphTells' HOLDS AT EVERY INPUT.
  Conditions: none.
-/
import Derived.Test.YtbimmkikjkhglaaGreatLwGraphTells
import Derived.Test.YtbimmkikjkhglaaGreatPL
import Derived.Test.YtbimmkikjkhglaaGreatPM
section
/-
  PLAIN LAW: WHAT THE PROGRAM TELLS OF ANY GRAPH IS AS THE DOCUMENT SAYS.
-/
namespace Go.Ab.M
set_option linter.unusedVariables false
theorem GraphTells_right {g : Graph} {I M O : Nat} (h : RGr g I M O) (hg : g.Ok 2) (hf : fewG g) (v : Int) : law17_GraphTells g v = some true := by
  have few := (ref17_Few_eq g).1 hf
  obtain ⟨f1, f2, f3, f4, f5, f6⟩ := id hf
  have hK : (2 + 1) * g.Edges.length + 1 ≤ 1400 := by omega
  have r := h.right
  have a1 := graph_Right_eq (n := 2) (by decide) hg
  have a2 := ref17_Right_eq hg (by decide) (by decide)
  have a3 := graph_In_eq (n := 2) (by decide) hg v
  have a4 := graph_Out_eq (n := 2) (by decide) hg v
  rw [r] at a1 a2
  rw [if_pos r] at a3 a4
  have b3 := ref17_In_eq hg.e v
  have b4 := ref17_Out_eq hg.e v
  have a5 := graph_Paths_eq h hg (by decide) (by decide) (by omega)
  have b5 := ref17_Paths_eq h hg (by decide) (by decide) (by omega) hK
  have a6 := graph_Direct_eq h hg (by decide)
  have b6 := ref17_Direct_eq h hg (by decide) (by decide) (by omega) hK
  have a7 := graph_Complete_eq h hg (by decide)
  have b7 := ref17_Complete_eq h hg (by decide) (by decide)
  have a8 := graph_Prune_eq h hg (by decide)
  have b8 := ref17_Prune_eq h hg.e
  have hw := Ok.len hg (by decide)
  have ho : (g.prune I M).Ok 2 := Ok.filter hg _
  have s8 := graph_same (g := g.prune I M) (Nat.le_trans ho.e (by decide)) (Nat.le_trans ho.g (by decide)) (Ok.len ho (by decide))
  have s3 := edges_same (l := g.ins v) (Nat.le_trans (ins_len g v) (by have := hg.e; omega)) fun w hx => hw w (gmem_ins hx).1
  have s4 := edges_same (l := g.outs v) (Nat.le_trans (outs_len g v) (by have := hg.e; omega)) fun w hx => hw w (gmem_outs hx).1
  have s5 := paths_same h hg (by decide) (by omega)
  have s6 := direct_same h hg (by decide) (by omega) (by omega)
  simp only [law17_GraphTells, awake17, few, a1, a2, a3, a4, a5, a6, a7, a8, b3, b4, b5, b6, b7, b8, s3, s4, s5, s6, s8, Option.bind_some, Bool.not_true, cond_false, cond_true, BEq.rfl]
theorem GraphTells_wrong {g : Graph} (r : g.right = false) (hg : g.Ok 2) (hf : fewG g) (v : Int) : law17_GraphTells g v = some true := by
  have few := (ref17_Few_eq g).1 hf
  have a1 := graph_Right_eq (n := 2) (by decide) hg
  have a2 := ref17_Right_eq hg (by decide) (by decide)
  have a3 := graph_In_eq (n := 2) (by decide) hg v
  have a4 := graph_Out_eq (n := 2) (by decide) hg v
  rw [r] at a1 a2
  rw [if_neg (by rw [r]; decide)] at a3 a4
  have a5 := graph_Paths_no (n := 2) (by decide) hg r
  have b5 := ref17_Paths_no hg (by decide) (by decide) r
  have a6 := graph_Direct_no (n := 2) (by decide) hg r
  have b6 := ref17_Direct_no hg (by decide) (by decide) r
  have a7 := graph_Complete_no (n := 2) (by decide) hg r
  have b7 := ref17_Complete_no hg (by decide) (by decide) r
  have a8 := graph_Prune_no (n := 2) (by decide) hg r
  have s8 := graph_same (g := Graph.mk 0 0 0 [] []) (by decide) (by decide) (fun w hw => by cases hw)
  have s3 := edges_same (l := []) (by decide) (fun w hw => by cases hw)
  have s5 := jacs_same (j := Jac.mk 0 0 []) (by decide) (fun w hw => by cases hw)
  simp only [law17_GraphTells, awake17, few, a1, a2, a3, a4, a5, a6, a7, a8, b5, b6, b7, s3, s5, s8, Option.bind_some, Bool.not_true, cond_false, cond_true, BEq.rfl]
/-- labels that come in are words -/
def RatIn (x : Rat) : Prop := True ∧ (x.Num.length ≤ maxLen ∧ ∀ z, z ∈ x.Num → inRange .u32 z) ∧ (x.Den.length ≤ maxLen ∧ ∀ z, z ∈ x.Den → inRange .u32 z)
theorem RatIn.ok {x : Rat} {n : Nat} (h : RatIn x) (k : x.Num.length ≤ n ∧ x.Den.length ≤ n) : okL n x :=
  ⟨fun z hz => ⟨(h.2.1.2 z hz).1, Int.lt_of_le_of_lt (h.2.1.2 z hz).2 (by decide)⟩, fun z hz => ⟨(h.2.2.2 z hz).1, Int.lt_of_le_of_lt (h.2.2.2 z hz).2 (by decide)⟩, k.1, k.2⟩
def GraphIn (g : Graph) : Prop := inRange .i64 g.Ins ∧ inRange .i64 g.Mids ∧ inRange .i64 g.Outs ∧ (g.Edges.length ≤ maxLen ∧ ∀ z, z ∈ g.Edges → inRange .i64 z.From ∧ inRange .i64 z.To ∧ RatIn z.W) ∧ (g.Gone.length ≤ maxLen ∧ ∀ z, z ∈ g.Gone → inRange .i64 z)
theorem GraphIn.ok {g : Graph} (h : GraphIn g) (hf : fewG g) : g.Ok 2 := by
  obtain ⟨f1, f2, f3, f4, f5, f6⟩ := hf
  exact ⟨fun i hi => (h.2.2.2.1.2 _ (nth_mem hi)).2.2.ok (f6 _ (nth_mem hi)), by omega, by omega⟩
theorem GraphTells_true (g : Graph) (v : Int) {T : Prop} (hg : GraphIn g) (hv : T) : law17_GraphTells g v = some true := by
  by_cases hf : fewG g
  · have ok := hg.ok hf
    rcases Bool.eq_false_or_eq_true g.right with r | r
    · exact GraphTells_right (right_gr r) ok hf v
    · exact GraphTells_wrong r ok hf v
  · have few := (ref17_Few_eq g).2 hf
    simp only [law17_GraphTells, awake17, few, Option.bind_some, Bool.not_false, cond_true]
end Go.Ab.M
end

section
/-
  ARGUMENTS AS TYPED DATA (printed by jot.py).
-/
namespace Go.Ab.M
open Go.Proofs Go.Proofs.YtbimmkikjkhglaaGreat
set_option linter.unusedVariables false
def tyRat : Ty Tryz.prog 41 := Ty.as (Ty.struct Tryz.underlying41 (Flds.cons (Ty.bool Tryz.underlying4) rfl 1 (by kernel_rfl) (Flds.cons (Ty.slice Tryz.underlying39 (Ty.int .u32 Tryz.underlying106) (by decide +kernel) (fun _ => show 1 = _ by kernel_rfl)) rfl 1 (by kernel_rfl) (Flds.last (Ty.slice Tryz.underlying39 (Ty.int .u32 Tryz.underlying106) (by decide +kernel) (fun _ => show 1 = _ by kernel_rfl)) rfl (by kernel_rfl)))))
  (fun y => Rat.mk y.1 y.2.1 y.2.2) Rat.D (fun y => True ∧ (y.Num.length ≤ maxLen ∧ ∀ z, z ∈ y.Num → inRange .u32 z) ∧ (y.Den.length ≤ maxLen ∧ ∀ z, z ∈ y.Den → inRange .u32 z)) (fun _ => 0) (fun _ => rfl) (fun _ h => h) (fun _ => Nat.zero_le _)
def tyEdge : Ty Tryz.prog 43 := Ty.as (Ty.struct Tryz.underlying43 (Flds.cons (Ty.int .i64 Tryz.underlying3) rfl 1 (by kernel_rfl) (Flds.cons (Ty.int .i64 Tryz.underlying3) rfl 1 (by kernel_rfl) (Flds.last tyRat rfl (by kernel_rfl)))))
  (fun y => Edge.mk y.1 y.2.1 y.2.2) Edge.D (fun y => inRange .i64 y.From ∧ inRange .i64 y.To ∧ tyRat.ok y.W) (fun _ => 0) (fun _ => rfl) (fun _ h => h) (fun _ => Nat.zero_le _)
def tyGraph : Ty Tryz.prog 25 := Ty.as (Ty.struct Tryz.underlying25 (Flds.cons (Ty.int .i64 Tryz.underlying3) rfl 1 (by kernel_rfl) (Flds.cons (Ty.int .i64 Tryz.underlying3) rfl 1 (by kernel_rfl) (Flds.cons (Ty.int .i64 Tryz.underlying3) rfl 1 (by kernel_rfl) (Flds.cons (Ty.slice Tryz.underlying22 tyEdge (by decide +kernel) (fun _ => show 5 = _ by kernel_rfl)) rfl 1 (by kernel_rfl) (Flds.last (Ty.slice Tryz.underlying23 (Ty.int .i64 Tryz.underlying3) (by decide +kernel) (fun _ => show 1 = _ by kernel_rfl)) rfl (by kernel_rfl)))))))
  (fun y => Graph.mk y.1 y.2.1 y.2.2.1 y.2.2.2.1 y.2.2.2.2) Graph.D (fun y => inRange .i64 y.Ins ∧ inRange .i64 y.Mids ∧ inRange .i64 y.Outs ∧ (y.Edges.length ≤ maxLen ∧ ∀ z, z ∈ y.Edges → tyEdge.ok z) ∧ (y.Gone.length ≤ maxLen ∧ ∀ z, z ∈ y.Gone → inRange .i64 z)) (fun _ => 0) (fun _ => rfl) (fun _ h => h) (fun _ => Nat.zero_le _)
end Go.Ab.M
end

section
namespace Go.Proofs.YtbimmkikjkhglaaGreat.graphTells
open Go.ChangeShapes Go.WideShapes Go.ChangeAt Go.RowKit Go.Ab Go.Ab.M
set_option linter.unusedVariables false

theorem own : ownKnob Tryz.prog.godebug = none := by kernel_rfl

theorem core (a : Graph) (b : Int) (ha : tyGraph.ok a) (hb : inRange .i64 b) : ACallsD Tryz.prog 8 0 [AG Graph.D a, I b] [] yes [] := law17_GraphTells_ok a b true (GraphTells_true a b ha hb)

set_option maxRecDepth 100000 in
theorem contract (H : Type) (enc : TypeId × Value → H) (W : World) (base : Nat) (args : Array Value) (ds gs : List (DataW H)) (before : List MemPlace)
    (hval : ∀ (j : Nat) t v, Tryz.f8.params[j]? = some t → args[j]? = some v → Value.okWide Tryz.prog W .any base t v)
    (hW : DataW.Whole enc Tryz.prog Tryz.f8.params.toList Rows.graphTellsSpec.vars false W args.toList ds gs before) :
    Calls Tryz.prog 8 args W fun e W' => ∃ v, e = .returned v ∧ Rows.graphTellsSpec.post enc Tryz.prog Tryz.f8 false true false false W args v W' :=
  law_contract (tb := 4) (ts := [25, 3]) (Tup.agg tyGraph (by kernel_rfl) (Tup.one (Ty.int .i64 Tryz.underlying3) (fun n => .v (.int .i64 n)) (fun _ => rfl) (one_int Tryz.underlying3) Tup.nil)) (by kernel_rfl) (by kernel_rfl) (by kernel_rfl) (by kernel_rfl) Tryz.underlying4 rfl (fun ds h => by
      match ds, h with
      | [d0, d1], _ => rfl) hval hW
    fun y hy _ => core y.1 y.2.1 hy.1 hy.2.1

set_option maxRecDepth 100000 in
theorem lifted (os : Os) (started : os.Started) (H : Type) (enc : TypeId × Value → H) :
    ReturnsInHanded {} Tryz.checked os 8 .any (Rows.graphTellsSpec.pre6 enc Tryz.prog Tryz.f8 Rows.graphTellsRow.domain false) (Rows.graphTellsSpec.post enc Tryz.prog Tryz.f8 false true false false) := by
  refine returnsInHanded_of_change (C := Tryz.checked) own started (by kernel_rfl) Tryz.func8
    (ChangeSpec.witness6 (enc := enc) (C := Tryz.checked) false ⟨#[], #[.agg #[.int .i64 0, .int .i64 0, .int .i64 0, .slice none 0 0, .slice none 0 0], .int .i64 0], []⟩ 8 (by kernel_rfl) (by kernel_rfl) (by kernel_rfl) (by kernel_rfl)) ?_
  intro W base args ds gs before hval hW _ _
  exact contract H enc W base args ds gs before hval hW

theorem over : Rows.graphTellsRow.holds Tryz.pinned (OpenSpec.ofChange Rows.graphTellsSpec) :=
  OpenClaim.holds_of_wide 8 Tryz.f8 rfl rfl rfl rfl rfl rfl rfl ⟨rfl, rfl, rfl, rfl, rfl⟩ rfl rfl rfl rfl rfl (by kernel_rfl) Tryz.func8 (by kernel_rfl)
    (of_decide_eq_true (by kernel_rfl)) (by unfold Func.isWrapper; first | (rw [if_pos (by decide +kernel)]; kernel_rfl) | (rw [if_neg (by decide +kernel)]; exact ⟨rfl, rfl⟩))
    (fun os started H enc _ => lifted os started H enc)

theorem proved : Rows.GraphTellsSaid :=
  over
end Go.Proofs.YtbimmkikjkhglaaGreat.graphTells
end
