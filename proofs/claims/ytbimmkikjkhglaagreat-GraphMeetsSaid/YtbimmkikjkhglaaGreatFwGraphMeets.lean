/-
  THE LAW 'GraphMeets' HOLDS AT EVERY INPUT.
  Conditions: none.
-/
import Derived.Test.YtbimmkikjkhglaaGreatLwGraphMeets
import Derived.Test.YtbimmkikjkhglaaGreatPN
import Derived.Test.YtbimmkikjkhglaaGreatPM
section
/-
  PLAIN LAW: EACH EDGE BEGINS AT ONE VERTEX AND ENDS AT ONE; where all ways have one edge, sums are those edges' labels.
-/
namespace Go.Ab.M
open Go.Proofs
set_option linter.unusedVariables false
set_option linter.unusedSimpArgs false
theorem picked4_eq {l : List Edge} (v : Int) (hl : l.length ≤ 100000) : graph_picked_api_Edge_4 v l = some (if (l.filter fun w => w.From == v) = [] then .inl () else .inr (l.filter fun w => w.From == v)) := by
  have run : graph_picked_api_Edge_l_4 v l [] 0 = some (l.filter fun w => w.From == v) := by
    have := loop_run (round := fun σ : List Edge × Nat => graph_picked_api_Edge_l_4_rd v l σ.1 σ.2) (fun i => ((l.take i).filter (fun w => w.From == v), i)) l.length (r := (l.take l.length).filter (fun w => w.From == v)) (fun i hi => ?_) ?_ (by simp only [FU]; omega)
    · rw [List.take_length] at this; exact this
    · have hq := filt_len (l := l) (fun w : Edge => w.From == v) i
      show graph_picked_api_Edge_l_4_rd v l ((l.take i).filter (fun w => w.From == v)) i = some (.inl ((l.take (i + 1)).filter (fun w => w.From == v), i + 1))
      rw [filter_step hi]
      rcases Bool.eq_false_or_eq_true ((nth l i).From == v) with q | q
      · simp (disch := omega) only [graph_picked_api_Edge_l_4_rd, graph_Out_1, q, Option.bind_some, Bool.cond_decide, if_t, inK_i64, cond_true, if_true]
      · simp (disch := omega) only [graph_picked_api_Edge_l_4_rd, graph_Out_1, q, Option.bind_some, Bool.cond_decide, if_t, inK_i64, cond_true, cond_false, Bool.false_eq_true, if_false]
    · simp only [graph_picked_api_Edge_l_4_rd, Int.lt_irrefl, decide_false, cond_false]
  simp only [graph_picked_api_Edge_4, run, Option.bind_some]
  cases q : l.filter fun w => w.From == v with
  | nil => rfl
  | cons a t => rfl
theorem Out2_eq {g : Graph} {n : Nat} (hn : n ≤ 10000000) (hg : g.Ok n) (hr : g.right = true) (v : Int) : graph_Out_2 g v = some (if g.outs v = [] then .inl () else .inr (g.outs v)) := by
  simp only [graph_Out_2, graph_Right_eq hn hg, hr, Option.bind_some, Bool.not_true, cond_false, picked4_eq v hg.e]
  show (caseS (if g.outs v = [] then .inl () else .inr (g.outs v)) _ _) = _
  split <;> rfl
theorem Meets_l {g : Graph} {I M O : Nat} (h : RGr g I M O) (hg : g.Ok 1) (hl : g.Edges.length ≤ 64) : law17_GraphMeets_l true g 0 0 [] 0 = some (g.Edges.length, g.Edges.length, g.Edges) := by
  have i2 := h.i2; have m2 := h.m2; have o2 := h.o2; have i1 := h.i1
  have all : g.Edges.filter (fun w => decide (w.From < ((I + M + O : Nat) : Int))) = g.Edges := by
    rw [List.filter_eq_self]; intro w hw; have := h.e w hw; rw [decide_eq_true_eq]; omega
  have all2 : g.Edges.filter (fun w => decide (w.To < ((I + M + O : Nat) : Int))) = g.Edges := by
    rw [List.filter_eq_self]; intro w hw; have := h.e w hw; rw [decide_eq_true_eq]; omega
  have z1 : g.Edges.filter (fun w => decide (w.From < ((0 : Nat) : Int))) = [] := by
    rw [List.filter_eq_nil_iff]; intro w hw; have := h.e w hw; rw [decide_eq_true_eq]; omega
  have z2 : g.Edges.filter (fun w => decide (w.To < ((0 : Nat) : Int))) = [] := by
    rw [List.filter_eq_nil_iff]; intro w hw; have := h.e w hw; rw [decide_eq_true_eq]; omega
  have := loop_run (round := fun σ : Nat × Nat × List Edge × Nat => law17_GraphMeets_l_rd true g σ.1 σ.2.1 σ.2.2.1 σ.2.2.2)
    (fun i => ((g.Edges.filter (fun w => decide (w.From < (i : Int)))).length, (g.Edges.filter (fun w => decide (w.To < (i : Int)))).length, g.Edges.filter (fun w => decide (w.From < (i : Int))), i)) (I + M + O)
    (r := ((g.Edges.filter (fun w => decide (w.From < ((I + M + O : Nat) : Int)))).length, (g.Edges.filter (fun w => decide (w.To < ((I + M + O : Nat) : Int)))).length, g.Edges.filter (fun w => decide (w.From < ((I + M + O : Nat) : Int))))) (fun i hi => ?_) ?_ (by simp only [FU]; omega)
  · rw [all, all2] at this
    simp only [z1, z2] at this
    exact this
  · show law17_GraphMeets_l_rd true g (g.Edges.filter (fun w => decide (w.From < (i : Int)))).length (g.Edges.filter (fun w => decide (w.To < (i : Int)))).length (g.Edges.filter (fun w => decide (w.From < (i : Int)))) i =
      some (.inl ((g.Edges.filter (fun w => decide (w.From < ((i + 1 : Nat) : Int)))).length, (g.Edges.filter (fun w => decide (w.To < ((i + 1 : Nat) : Int)))).length, g.Edges.filter (fun w => decide (w.From < ((i + 1 : Nat) : Int))), i + 1))
    have f1 := by_from h.s i
    have f2 := by_to g.Edges i
    have o := Out2_eq (n := 1) (by decide) hg h.right (i : Int)
    have n := graph_In_eq (n := 1) (by decide) hg (i : Int)
    rw [if_pos h.right] at n
    have l1 : (g.Edges.filter (fun w => decide (w.From < (i : Int)))).length ≤ 64 := Nat.le_trans (List.length_filter_le _ _) hl
    have l2 : (g.Edges.filter (fun w => decide (w.To < (i : Int)))).length ≤ 64 := Nat.le_trans (List.length_filter_le _ _) hl
    have l3 : (g.outs (i : Int)).length ≤ 64 := Nat.le_trans (outs_len _ _) hl
    have l4 : (g.ins (i : Int)).length ≤ 64 := Nat.le_trans (ins_len _ _) hl
    have f1 : g.Edges.filter (fun w => decide (w.From < ((i + 1 : Nat) : Int))) = g.Edges.filter (fun w => decide (w.From < (i : Int))) ++ g.outs (i : Int) := f1
    have f2 : (g.Edges.filter (fun w => decide (w.To < ((i + 1 : Nat) : Int)))).length = (g.Edges.filter (fun w => decide (w.To < (i : Int)))).length + (g.ins (i : Int)).length := f2
    rw [f1, f2, List.length_append]
    generalize g.Edges.filter (fun w => decide (w.From < (i : Int))) = a at *
    generalize (g.Edges.filter (fun w => decide (w.To < (i : Int)))).length = b at *
    by_cases q : g.outs (i : Int) = []
    · rw [if_pos q] at o
      rw [q]
      simp (disch := omega) only [law17_GraphMeets_l_rd, h.i, h.m, h.o, o, n, Option.bind_some, caseS_inl, Bool.cond_decide, if_t, inK_i64, cond_true, if_true]
      rfl
    · rw [if_neg q] at o
      simp (disch := omega) only [law17_GraphMeets_l_rd, h.i, h.m, h.o, o, n, Option.bind_some, caseS_inr, Bool.cond_decide, if_t, inK_i64, cond_true, if_true]
  · have lt : ¬ (((I + M + O : Nat) : Int) < (I : Int) + (M : Int) + (O : Int)) := by omega
    simp (disch := omega) only [law17_GraphMeets_l_rd, h.i, h.m, h.o, decide_eq_false lt, cond_false, inK_i64, cond_true]
theorem GraphMeets_true (x y z : Int) (l : List Link) (hx : inRange .u8 x) (hy : inRange .u8 y) (hz : inRange .u8 z) (hl : l.length ≤ maxLen ∧ ∀ z, z ∈ l → inRange .u8 z.From ∧ inRange .u8 z.To ∧ inRange .i8 z.N ∧ inRange .u8 z.D_) : law17_GraphMeets x y z l = some true := by
  by_cases h30 : ((l.length : Nat) : Int) > 30
  · simp only [law17_GraphMeets, awake17, Option.bind_some, Bool.cond_decide, if_pos h30]
  · obtain ⟨I, M, O, ⟨i1, i2, m2, o1, o2, -⟩, hm, h, hg, hE, -⟩ := made_all hx hy hz (links_ok hl.2) (by omega)
    generalize mkGraph I M O l = g at *
    have lo := Meets_l h hg hE
    have rr := graph_Right_eq (n := 1) (by decide) hg
    rw [h.right] at rr
    have hw := Ok.len hg (by decide)
    have s := edges_same (l := g.Edges) (by have := hg.e; omega) hw
    have c := graph_Complete_eq h hg (by decide)
    have p := graph_Paths_eq h hg (by decide) (by decide) (by omega)
    have d := graph_Direct_eq h hg (by decide)
    have n0 := graph_In_eq (n := 1) (by decide) hg 0
    have n1 := graph_Out_eq (n := 1) (by decide) hg (g.Ins + g.Mids)
    rw [if_pos h.right] at n0 n1
    have z0 : g.ins 0 = [] := by
      unfold Graph.ins
      rw [List.filter_eq_nil_iff]; intro w hw; have := h.e w hw; rw [beq_iff_eq]; omega
    have z1 : g.outs (g.Ins + g.Mids) = [] := by
      unfold Graph.outs
      rw [List.filter_eq_nil_iff]; intro w hw; have := h.e w hw; rw [beq_iff_eq, h.i, h.m]; omega
    rw [z0] at n0
    rw [z1] at n1
    have hin : inK .i64 (g.Ins + g.Mids) = true := by rw [h.i, h.m]; exact inK_i64 (by omega) (by omega)
    have sd := direct_same h hg (by decide) (by omega) (by omega)
    cases hc : g.comp I M with
    | false =>
      rw [hc] at c
      simp only [law17_GraphMeets, awake17, hm, lo, c, rr, s, n0, n1, hin, Option.bind_some, Bool.cond_decide, if_neg h30, cond_true, cond_false, BEq.rfl, List.length_nil]
      rfl
    | true =>
      rw [hc] at c
      have e : (List.range (O * I)).map (entry I M g.E) = (List.range (O * I)).map (dent I M g.E) := tab_congr fun k _ => comp_entry h hc
      rw [e] at p
      simp only [law17_GraphMeets, awake17, hm, lo, c, rr, s, n0, n1, hin, p, d, sd, Option.bind_some, Bool.cond_decide, if_neg h30, cond_true, cond_false, Bool.not_true, BEq.rfl, List.length_nil]
      rfl
end Go.Ab.M
end

section
/-
  ARGUMENTS AS TYPED DATA (printed by jot.py).
-/
namespace Go.Ab.M
open Go.Proofs Go.Proofs.YtbimmkikjkhglaaGreat
set_option linter.unusedVariables false
def tyLink : Ty Tryz.prog 86 := Ty.as (Ty.struct Tryz.underlying86 (Flds.cons (Ty.int .u8 Tryz.underlying5) rfl 1 (by kernel_rfl) (Flds.cons (Ty.int .u8 Tryz.underlying5) rfl 1 (by kernel_rfl) (Flds.cons (Ty.int .i8 Tryz.underlying56) rfl 1 (by kernel_rfl) (Flds.last (Ty.int .u8 Tryz.underlying5) rfl (by kernel_rfl))))))
  (fun y => Link.mk y.1 y.2.1 y.2.2.1 y.2.2.2) Link.D (fun y => inRange .u8 y.From ∧ inRange .u8 y.To ∧ inRange .i8 y.N ∧ inRange .u8 y.D_) (fun _ => 0) (fun _ => rfl) (fun _ h => h) (fun _ => Nat.zero_le _)
end Go.Ab.M
end

section
namespace Go.Proofs.YtbimmkikjkhglaaGreat.graphMeets
open Go.ChangeShapes Go.WideShapes Go.ChangeAt Go.RowKit Go.Ab Go.Ab.M
set_option linter.unusedVariables false

theorem own : ownKnob Tryz.prog.godebug = none := by kernel_rfl

theorem core (a : Int) (b : Int) (c : Int) (d : List Link) (ha : inRange .u8 a) (hb : inRange .u8 b) (hc : inRange .u8 c) (hd : (d.length ≤ maxLen ∧ ∀ z, z ∈ d → tyLink.ok z)) : ACallsD Tryz.prog 9 0 [NI .u8 a, NI .u8 b, NI .u8 c, SL Link.D d] [] yes [] := law17_GraphMeets_ok a b c d true (GraphMeets_true a b c d ha hb hc hd)

set_option maxRecDepth 100000 in
theorem contract (H : Type) (enc : TypeId × Value → H) (W : World) (base : Nat) (args : Array Value) (ds gs : List (DataW H)) (before : List MemPlace)
    (hval : ∀ (j : Nat) t v, Tryz.f9.params[j]? = some t → args[j]? = some v → Value.okWide Tryz.prog W .any base t v)
    (hW : DataW.Whole enc Tryz.prog Tryz.f9.params.toList Rows.graphMeetsSpec.vars false W args.toList ds gs before) :
    Calls Tryz.prog 9 args W fun e W' => ∃ v, e = .returned v ∧ Rows.graphMeetsSpec.post enc Tryz.prog Tryz.f9 false true false false W args v W' :=
  law_contract (tb := 4) (ts := [5, 5, 5, 37]) (Tup.one (Ty.int .u8 Tryz.underlying5) (fun n => .v (.int .u8 n)) (fun _ => rfl) (one_int Tryz.underlying5) (Tup.one (Ty.int .u8 Tryz.underlying5) (fun n => .v (.int .u8 n)) (fun _ => rfl) (one_int Tryz.underlying5) (Tup.one (Ty.int .u8 Tryz.underlying5) (fun n => .v (.int .u8 n)) (fun _ => rfl) (one_int Tryz.underlying5) (Tup.one (Ty.slice Tryz.underlying37 tyLink (by decide +kernel) (fun _ => show 4 = _ by kernel_rfl)) (fun l => .sl (l.map Link.D)) (fun _ => rfl) (one_slice Tryz.underlying37) Tup.nil)))) (by kernel_rfl) (by kernel_rfl) (by kernel_rfl) (by kernel_rfl) Tryz.underlying4 rfl (fun ds h => by
      match ds, h with
      | [d0, d1, d2, d3], _ => rfl) hval hW
    fun y hy _ => core y.1 y.2.1 y.2.2.1 y.2.2.2.1 hy.1 hy.2.1 hy.2.2.1 hy.2.2.2.1

set_option maxRecDepth 100000 in
theorem lifted (os : Os) (started : os.Started) (H : Type) (enc : TypeId × Value → H) :
    ReturnsInHanded {} Tryz.checked os 9 .any (Rows.graphMeetsSpec.pre6 enc Tryz.prog Tryz.f9 Rows.graphMeetsRow.domain false) (Rows.graphMeetsSpec.post enc Tryz.prog Tryz.f9 false true false false) := by
  refine returnsInHanded_of_change (C := Tryz.checked) own started (by kernel_rfl) Tryz.func9
    (ChangeSpec.witness6 (enc := enc) (C := Tryz.checked) false ⟨#[], #[.int .u8 0, .int .u8 0, .int .u8 0, .slice none 0 0], []⟩ 8 (by kernel_rfl) (by kernel_rfl) (by kernel_rfl) (by kernel_rfl)) ?_
  intro W base args ds gs before hval hW _ _
  exact contract H enc W base args ds gs before hval hW

theorem over : Rows.graphMeetsRow.holds Tryz.pinned (OpenSpec.ofChange Rows.graphMeetsSpec) :=
  OpenClaim.holds_of_wide 9 Tryz.f9 rfl rfl rfl rfl rfl rfl rfl ⟨rfl, rfl, rfl, rfl, rfl⟩ rfl rfl rfl rfl rfl (by kernel_rfl) Tryz.func9 (by kernel_rfl)
    (of_decide_eq_true (by kernel_rfl)) (by unfold Func.isWrapper; first | (rw [if_pos (by decide +kernel)]; kernel_rfl) | (rw [if_neg (by decide +kernel)]; exact ⟨rfl, rfl⟩))
    (fun os started H enc _ => lifted os started H enc)

theorem proved : Rows.GraphMeetsSaid :=
  over
end Go.Proofs.YtbimmkikjkhglaaGreat.graphMeets
end
