/-
  THE LAW 'GraphPrunes' HOLDS AT EVERY INPUT.
  Conditions: none.
-/
import Derived.Test.YtbimmkikjkhglaaGreatLwGraphPrunes
import Derived.Test.YtbimmkikjkhglaaGreatPN
import Derived.Test.YtbimmkikjkhglaaGreatPM
section
/-
  PLAIN LAW: WITHOUT EDGES ON NO WAY THE PATHS ARE WHAT THEY WERE; pruned again nothing goes.
-/
namespace Go.Ab.M
open Go.Proofs
set_option linter.unusedVariables false
set_option linter.unusedSimpArgs false
theorem Prunes_l {g : Graph} {I M O : Nat} (h : RGr g I M O) (hg : g.Ok 1) (hl : g.Edges.length ≤ 64) : law17_GraphPrunes_l true g (g.prune I M) 0 = some (.inr ()) := by
  have hp := h.prune
  have ho : (g.prune I M).Ok 1 := Ok.filter hg _
  have hlen : (g.prune I M).Edges.length ≤ 64 := Nat.le_trans (List.length_filter_le _ _) hl
  have goes : ∀ i, i < (g.prune I M).Edges.length → _ := fun i hi => prune_goes h (nth_mem hi)
  unfold law17_GraphPrunes_l
  refine loop_run (round := fun σ : Nat => law17_GraphPrunes_l_rd true g (g.prune I M) σ) (fun i => i) (g.prune I M).Edges.length (fun i hi => ?_) ?_ (by simp only [FU]; omega)
  · show law17_GraphPrunes_l_rd true g (g.prune I M) i = some (.inl (i + 1))
    obtain ⟨g1, g2⟩ := goes i hi
    have he := hp.e _ (nth_mem hi)
    have sz : (g.prune I M).shape.sized = true := by
      have := hp.right
      simp only [Graph.right, Bool.and_eq_true] at this
      exact this.1.1
    have m1 := ref17_Mid_eq sz (nth (g.prune I M).Edges i).To
    have m2 := ref17_Mid_eq sz (nth (g.prune I M).Edges i).From
    have o := graph_Out_eq (n := 1) (by decide) ho (nth (g.prune I M).Edges i).To
    have n := graph_In_eq (n := 1) (by decide) ho (nth (g.prune I M).Edges i).From
    rw [if_pos hp.right] at o n
    have d1 : (g.prune I M).shape.isMid (nth (g.prune I M).Edges i).To = decide ((nth (g.prune I M).Edges i).To < (I : Int) + M) := by
      show (decide ((g.prune I M).Ins ≤ (nth (g.prune I M).Edges i).To) && decide ((nth (g.prune I M).Edges i).To < (g.prune I M).Ins + (g.prune I M).Mids)) = _
      rw [hp.i, hp.m, decide_eq_true (show (I : Int) ≤ (nth (g.prune I M).Edges i).To by omega), Bool.true_and]
    have d2 : (g.prune I M).shape.isMid (nth (g.prune I M).Edges i).From = decide ((I : Int) ≤ (nth (g.prune I M).Edges i).From) := by
      show (decide ((g.prune I M).Ins ≤ (nth (g.prune I M).Edges i).From) && decide ((nth (g.prune I M).Edges i).From < (g.prune I M).Ins + (g.prune I M).Mids)) = _
      rw [hp.i, hp.m, decide_eq_true (show (nth (g.prune I M).Edges i).From < (I : Int) + M by omega), Bool.and_true]
    rw [d1] at m1
    rw [d2] at m2
    have ne : ∀ {l : List Edge}, l ≠ [] → (((l.length : Nat) : Int) == 0) = false := fun {l} q => by
      rw [beq_eq_false_iff_ne]
      cases l with
      | nil => exact absurd rfl q
      | cons a t => simp only [List.length_cons]; omega
    generalize (g.prune I M) = p at *
    by_cases q1 : (nth p.Edges i).To < (I : Int) + M
    · have k1 := ne (g1 q1)
      rw [decide_eq_true q1] at m1
      by_cases q2 : (I : Int) ≤ (nth p.Edges i).From
      · have k2 := ne (g2 q2)
        rw [decide_eq_true q2] at m2
        simp (disch := omega) only [law17_GraphPrunes_l_rd, m1, m2, o, n, k1, k2, Option.bind_some, Bool.cond_decide, if_t, inK_i64, cond_true, cond_false]
      · rw [decide_eq_false q2] at m2
        simp (disch := omega) only [law17_GraphPrunes_l_rd, m1, m2, o, n, k1, Option.bind_some, Bool.cond_decide, if_t, inK_i64, cond_true, cond_false]
    · rw [decide_eq_false q1] at m1
      by_cases q2 : (I : Int) ≤ (nth p.Edges i).From
      · have k2 := ne (g2 q2)
        rw [decide_eq_true q2] at m2
        simp (disch := omega) only [law17_GraphPrunes_l_rd, m1, m2, o, n, k2, Option.bind_some, Bool.cond_decide, if_t, inK_i64, cond_true, cond_false]
      · rw [decide_eq_false q2] at m2
        simp (disch := omega) only [law17_GraphPrunes_l_rd, m1, m2, o, n, Option.bind_some, Bool.cond_decide, if_t, inK_i64, cond_true, cond_false]
  · simp only [law17_GraphPrunes_l_rd, Int.lt_irrefl, decide_false, cond_false]
theorem GraphPrunes_true (x y z : Int) (l : List Link) (hx : inRange .u8 x) (hy : inRange .u8 y) (hz : inRange .u8 z) (hl : l.length ≤ maxLen ∧ ∀ z, z ∈ l → inRange .u8 z.From ∧ inRange .u8 z.To ∧ inRange .i8 z.N ∧ inRange .u8 z.D_) : law17_GraphPrunes x y z l = some true := by
  by_cases h30 : ((l.length : Nat) : Int) > 30
  · simp only [law17_GraphPrunes, awake17, Option.bind_some, Bool.cond_decide, if_pos h30]
  · obtain ⟨I, M, O, ⟨i1, i2, m2, o1, o2, -⟩, hm, h, hg, hE, -⟩ := made_all hx hy hz (links_ok hl.2) (by omega)
    generalize mkGraph I M O l = g at *
    have hp := h.prune
    have ho : (g.prune I M).Ok 1 := Ok.filter hg _
    have hlen : (g.prune I M).Edges.length ≤ g.Edges.length := List.length_filter_le _ _
    have a1 := graph_Prune_eq h hg (by decide)
    have a2 := graph_Prune_eq hp ho (by decide)
    rw [prune_prune h] at a2
    have lo := Prunes_l h hg hE
    have p1 := graph_Paths_eq h hg (by decide) (by decide) (by omega)
    have p2 := graph_Paths_eq hp ho (by decide) (by decide) (by omega)
    have e : (List.range (O * I)).map (entry I M (g.prune I M).E) = (List.range (O * I)).map (entry I M g.E) := tab_congr fun k _ => prune_entry h (by omega)
    rw [e] at p2
    have sp := paths_same h hg (by decide) (by omega)
    have ss := graph_same (g := g.prune I M) (Nat.le_trans ho.e (by decide)) (Nat.le_trans ho.g (by decide)) (Ok.len ho (by decide))
    have c1 := graph_Complete_eq h hg (by decide)
    have c2 := graph_Complete_eq hp ho (by decide)
    rw [prune_comp h] at c2
    simp only [law17_GraphPrunes, awake17, hm, a1, lo, p1, p2, sp, a2, ss, c1, c2, Option.bind_some, caseS_inr, Bool.cond_decide, if_neg h30, cond_true, BEq.rfl]
    exact congrArg some (decide_eq_true (by omega))
end Go.Ab.M
end

section
/-
  ARGUMENTS AS TYPED DATA (printed by jot.py).
-/
namespace Go.Ab.M
open Go.Proofs Go.Proofs.YtbimmkikjkhglaaGreat
set_option linter.unusedVariables false
def tyLink : Ty Tryz.prog 86 := Ty.as (Ty.struct Tryz.underlying86 (Flds.cons (Ty.int .u8 Tryz.underlying5) rfl 1 (by kernel_rfl) (Flds.cons (Ty.int .u8 Tryz.underlying5) rfl 1 (by kernel_rfl) (Flds.cons (Ty.int .i8 Tryz.underlying56) rfl 1 (by kernel_rfl) (Flds.last (Ty.int .u8 Tryz.underlying5) rfl (by kernel_rfl))))))
  (fun y => Link.mk y.1 y.2.1 y.2.2.1 y.2.2.2) Link.D (fun y => inRange .u8 y.From ∧ inRange .u8 y.To ∧ inRange .i8 y.N ∧ inRange .u8 y.D_) (fun _ => 0) (fun _ => rfl) (fun _ h => h) (fun _ => Nat.zero_le _)
end Go.Ab.M
end

section
namespace Go.Proofs.YtbimmkikjkhglaaGreat.graphPrunes
open Go.ChangeShapes Go.WideShapes Go.ChangeAt Go.RowKit Go.Ab Go.Ab.M
set_option linter.unusedVariables false

theorem own : ownKnob Tryz.prog.godebug = none := by kernel_rfl

theorem core (a : Int) (b : Int) (c : Int) (d : List Link) (ha : inRange .u8 a) (hb : inRange .u8 b) (hc : inRange .u8 c) (hd : (d.length ≤ maxLen ∧ ∀ z, z ∈ d → tyLink.ok z)) : ACallsD Tryz.prog 7 0 [NI .u8 a, NI .u8 b, NI .u8 c, SL Link.D d] [] yes [] := law17_GraphPrunes_ok a b c d true (GraphPrunes_true a b c d ha hb hc hd)

set_option maxRecDepth 100000 in
theorem contract (H : Type) (enc : TypeId × Value → H) (W : World) (base : Nat) (args : Array Value) (ds gs : List (DataW H)) (before : List MemPlace)
    (hval : ∀ (j : Nat) t v, Tryz.f7.params[j]? = some t → args[j]? = some v → Value.okWide Tryz.prog W .any base t v)
    (hW : DataW.Whole enc Tryz.prog Tryz.f7.params.toList Rows.graphPrunesSpec.vars false W args.toList ds gs before) :
    Calls Tryz.prog 7 args W fun e W' => ∃ v, e = .returned v ∧ Rows.graphPrunesSpec.post enc Tryz.prog Tryz.f7 false true false false W args v W' :=
  law_contract (tb := 4) (ts := [5, 5, 5, 37]) (Tup.one (Ty.int .u8 Tryz.underlying5) (fun n => .v (.int .u8 n)) (fun _ => rfl) (one_int Tryz.underlying5) (Tup.one (Ty.int .u8 Tryz.underlying5) (fun n => .v (.int .u8 n)) (fun _ => rfl) (one_int Tryz.underlying5) (Tup.one (Ty.int .u8 Tryz.underlying5) (fun n => .v (.int .u8 n)) (fun _ => rfl) (one_int Tryz.underlying5) (Tup.one (Ty.slice Tryz.underlying37 tyLink (by decide +kernel) (fun _ => show 4 = _ by kernel_rfl)) (fun l => .sl (l.map Link.D)) (fun _ => rfl) (one_slice Tryz.underlying37) Tup.nil)))) (by kernel_rfl) (by kernel_rfl) (by kernel_rfl) (by kernel_rfl) Tryz.underlying4 rfl (fun ds h => by
      match ds, h with
      | [d0, d1, d2, d3], _ => rfl) hval hW
    fun y hy _ => core y.1 y.2.1 y.2.2.1 y.2.2.2.1 hy.1 hy.2.1 hy.2.2.1 hy.2.2.2.1

set_option maxRecDepth 100000 in
theorem lifted (os : Os) (started : os.Started) (H : Type) (enc : TypeId × Value → H) :
    ReturnsInHanded {} Tryz.checked os 7 .any (Rows.graphPrunesSpec.pre6 enc Tryz.prog Tryz.f7 Rows.graphPrunesRow.domain false) (Rows.graphPrunesSpec.post enc Tryz.prog Tryz.f7 false true false false) := by
  refine returnsInHanded_of_change (C := Tryz.checked) own started (by kernel_rfl) Tryz.func7
    (ChangeSpec.witness6 (enc := enc) (C := Tryz.checked) false ⟨#[], #[.int .u8 0, .int .u8 0, .int .u8 0, .slice none 0 0], []⟩ 8 (by kernel_rfl) (by kernel_rfl) (by kernel_rfl) (by kernel_rfl)) ?_
  intro W base args ds gs before hval hW _ _
  exact contract H enc W base args ds gs before hval hW

theorem over : Rows.graphPrunesRow.holds Tryz.pinned (OpenSpec.ofChange Rows.graphPrunesSpec) :=
  OpenClaim.holds_of_wide 7 Tryz.f7 rfl rfl rfl rfl rfl rfl rfl ⟨rfl, rfl, rfl, rfl, rfl⟩ rfl rfl rfl rfl rfl (by kernel_rfl) Tryz.func7 (by kernel_rfl)
    (of_decide_eq_true (by kernel_rfl)) (by unfold Func.isWrapper; first | (rw [if_pos (by decide +kernel)]; kernel_rfl) | (rw [if_neg (by decide +kernel)]; exact ⟨rfl, rfl⟩))
    (fun os started H enc _ => lifted os started H enc)

theorem proved : Rows.GraphPrunesSaid :=
  over
end Go.Proofs.YtbimmkikjkhglaaGreat.graphPrunes
end
