/-
  THE LAW 'VertexKeeps' HOLDS AT EVERY INPUT.
  Conditions: none.
-/
import Derived.Test.YthikenallhbkpaaGreatLwVertexKeeps
import Derived.Test.YthikenallhbkpaaGreatPS
section
/-
  PLAIN LAW: THE PATHS STAY WHAT THEY WERE, WHICHEVER VERTEX GOES.
-/
namespace Go.Ab.M
open Go.Proofs Go.Ab
set_option linter.unusedVariables false
set_option linter.unusedSimpArgs false
theorem VertexKeeps_true (x y z : Int) (l : List Link) (p : Int) (hx : inRange .u8 x) (hy : inRange .u8 y) (hz : inRange .u8 z) (hl : l.length ≤ maxLen ∧ ∀ z, z ∈ l → inRange .u8 z.From ∧ inRange .u8 z.To ∧ inRange .i8 z.N ∧ inRange .u8 z.D_) (hp : inRange .u8 p) : law18_VertexKeeps x y z l p = some true := by
  by_cases h30 : ((l.length : Nat) : Int) > 30
  · simp only [law18_VertexKeeps, awake18, Option.bind_some, Bool.cond_decide, if_pos h30]
  · obtain ⟨I, M, O, ⟨i1, i2, m2, o1, o2, -⟩, hm, -, -, hE, hgone⟩ := made_all hx hy hz (links_ok hl.2) (by omega)
    have h := mk_inv (links_ok hl.2) i1 i2 m2 o1 o2
    generalize mkGraph I M O l = g at *
    have hI := h.r.i
    have hM := h.r.m
    by_cases h2 : M = 0
    · have : (g.Mids == 0) = true := by rw [hM, h2]; rfl
      simp only [law18_VertexKeeps, awake18, hm, this, Option.bind_some, Bool.cond_decide, if_neg h30, cond_true]
    · obtain ⟨p0, p1⟩ := hp
      have p1 : p ≤ 255 := p1
      have p0 : 0 ≤ p := p0
      have hpm := Int.emod_nonneg p (show (M : Int) ≠ 0 by omega)
      have hpl := Int.emod_lt_of_pos p (show (0 : Int) < M by omega)
      have m0 : (((M : Nat) : Int) == 0) = false := by rw [beq_eq_false_iff_ne]; omega
      generalize hu : p % (M : Int) = a at *
      have eu : (I : Int) + a = ((I + a.toNat : Nat) : Int) := by omega
      have cu : g.can ((I + a.toNat : Nat) : Int) = true := can_iff.2 ⟨h.r.right, by rw [hI]; omega, by rw [hI, hM]; omega, by rw [hgone]; simp⟩
      generalize hv : I + a.toNat = v at *
      have hin := h.elim cu
      have k0 : szK g.Gone.length = 1 := by rw [hgone]; rfl
      have ok := h.ok
      rw [k0] at ok
      have gl : (g.elim (I + M + O) v).Gone = [(v : Int)] := by
        show insG g.Gone (v : Int) = _
        rw [hgone]; rfl
      have k1 : szK (g.elim (I + M + O) v).Gone.length = 4 := by rw [gl]; rfl
      have ok4 := hin.ok
      rw [k1] at ok4
      have pe := prog_elim h.r ok (by decide) (by decide) cu (by rw [hgone]; decide)
      have gi := graph_In_eq (n := 1) (by decide) ok (v : Int)
      have go := graph_Out_eq (n := 1) (by decide) ok (v : Int)
      rw [if_pos h.r.right] at gi go
      have e1 := (nth_map_eq (ins_from h.r v)).1
      have e2 := (nth_map_eq (outs_to h.r v)).1
      have hpr := prods_in (g := g) (n := I + M + O) (v := v) (by omega)
      have gr := graph_Right_eq (n := 4) (by decide) ok4
      rw [hin.r.right] at gr
      have gi2 := graph_In_eq (n := 4) (by decide) ok4 (v : Int)
      have go2 := graph_Out_eq (n := 4) (by decide) ok4 (v : Int)
      rw [if_pos hin.r.right] at gi2 go2
      rw [elim_ins] at gi2
      rw [elim_outs] at go2
      have hlen : (g.elim (I + M + O) v).Edges.length ≤ 121 := by
        refine Nat.le_trans (edgesOf_len _ _) ?_
        have := h.n
        exact Nat.mul_le_mul this this
      have P1 := graph_Paths_eq hin.r ok4 (by decide) (by decide) (by omega)
      have P2 := graph_Paths_eq h.r ok (by decide) (by decide) (by omega)
      have ent : (List.range (O * I)).map (entry I M (g.elim (I + M + O) v).E) = (List.range (O * I)).map (entry I M g.E) := tab_congr fun k _ => elim_entry h.r cu k
      rw [ent] at P1
      have same := paths_same h.r ok (by decide) (by omega)
      have hcan := vertex_Can_eq (n := 4) (by decide) ok4 (v : Int)
      rw [can_elim h.r cu, decide_eq_false (fun x => x rfl), Bool.and_false] at hcan
      have many := elim_many h.r cu
      have l1 := ins_len g (v : Int)
      have l2 := outs_len g (v : Int)
      unfold Graph.prods at pe hpr
      have g1 : (((([(v : Int)] : List Int).length : Nat) : Int) != 1) = false := rfl
      have g2 : nth [(v : Int)] 0 = (v : Int) := rfl
      have g3 : (((([] : List Edge).length : Nat) : Int) == 0) = true := rfl
      simp (disch := omega) only [law18_VertexKeeps, awake18, hm, hM, hI, hu, eu, m0, pe, gi, go, e1, e2, hpr, gl, g1, g2, g3, gr, gi2, go2, P1, P2, same, hcan, Option.bind_some, Bool.cond_decide, if_neg h30, if_t, inK_i64, cond_true, cond_false, BEq.rfl, Bool.not_false]
      simp (disch := omega) only [if_t, List.length_cons, List.length_nil]
      rw [e1, e2] at many
      congr 1
      rw [decide_eq_true_eq]
      omega
end Go.Ab.M
end

section
/-
  ARGUMENTS AS TYPED DATA (printed by jot.py).
-/
namespace Go.Ab.M
open Go.Proofs Go.Proofs.YthikenallhbkpaaGreat
set_option linter.unusedVariables false
def tyLink : Ty Tryz.prog 96 := Ty.as (Ty.struct Tryz.underlying96 (Flds.cons (Ty.int .u8 Tryz.underlying5) rfl 1 (by kernel_rfl) (Flds.cons (Ty.int .u8 Tryz.underlying5) rfl 1 (by kernel_rfl) (Flds.cons (Ty.int .i8 Tryz.underlying94) rfl 1 (by kernel_rfl) (Flds.last (Ty.int .u8 Tryz.underlying5) rfl (by kernel_rfl))))))
  (fun y => Link.mk y.1 y.2.1 y.2.2.1 y.2.2.2) Link.D (fun y => inRange .u8 y.From ∧ inRange .u8 y.To ∧ inRange .i8 y.N ∧ inRange .u8 y.D_) (fun _ => 0) (fun _ => rfl) (fun _ h => h) (fun _ => Nat.zero_le _)
end Go.Ab.M
end

section
namespace Go.Proofs.YthikenallhbkpaaGreat.vertexKeeps
open Go.ChangeShapes Go.WideShapes Go.ChangeAt Go.RowKit Go.Ab Go.Ab.M
set_option linter.unusedVariables false

theorem own : ownKnob Tryz.prog.godebug = none := by kernel_rfl

theorem core (a : Int) (b : Int) (c : Int) (d : List Link) (e : Int) (ha : inRange .u8 a) (hb : inRange .u8 b) (hc : inRange .u8 c) (hd : (d.length ≤ maxLen ∧ ∀ z, z ∈ d → tyLink.ok z)) (he : inRange .u8 e) : ACallsD Tryz.prog 10 0 [NI .u8 a, NI .u8 b, NI .u8 c, SL Link.D d, NI .u8 e] [] yes [] := law18_VertexKeeps_ok a b c d e true (VertexKeeps_true a b c d e ha hb hc hd he)

set_option maxRecDepth 100000 in
theorem contract (H : Type) (enc : TypeId × Value → H) (W : World) (base : Nat) (args : Array Value) (ds gs : List (DataW H)) (before : List MemPlace)
    (hval : ∀ (j : Nat) t v, Tryz.f10.params[j]? = some t → args[j]? = some v → Value.okWide Tryz.prog W .any base t v)
    (hW : DataW.Whole enc Tryz.prog Tryz.f10.params.toList Rows.vertexKeepsSpec.vars false W args.toList ds gs before) :
    Calls Tryz.prog 10 args W fun e W' => ∃ v, e = .returned v ∧ Rows.vertexKeepsSpec.post enc Tryz.prog Tryz.f10 false true false false W args v W' :=
  law_contract (tb := 4) (ts := [5, 5, 5, 37, 5]) (Tup.one (Ty.int .u8 Tryz.underlying5) (fun n => .v (.int .u8 n)) (fun _ => rfl) (one_int Tryz.underlying5) (Tup.one (Ty.int .u8 Tryz.underlying5) (fun n => .v (.int .u8 n)) (fun _ => rfl) (one_int Tryz.underlying5) (Tup.one (Ty.int .u8 Tryz.underlying5) (fun n => .v (.int .u8 n)) (fun _ => rfl) (one_int Tryz.underlying5) (Tup.one (Ty.slice Tryz.underlying37 tyLink (by decide +kernel) (fun _ => show 4 = _ by kernel_rfl)) (fun l => .sl (l.map Link.D)) (fun _ => rfl) (one_slice Tryz.underlying37) (Tup.one (Ty.int .u8 Tryz.underlying5) (fun n => .v (.int .u8 n)) (fun _ => rfl) (one_int Tryz.underlying5) Tup.nil))))) (by kernel_rfl) (by kernel_rfl) (by kernel_rfl) (by kernel_rfl) Tryz.underlying4 rfl (fun ds h => by
      match ds, h with
      | [d0, d1, d2, d3, d4], _ => rfl) hval hW
    fun y hy _ => core y.1 y.2.1 y.2.2.1 y.2.2.2.1 y.2.2.2.2.1 hy.1 hy.2.1 hy.2.2.1 hy.2.2.2.1 hy.2.2.2.2.1

set_option maxRecDepth 100000 in
theorem lifted (os : Os) (started : os.Started) (H : Type) (enc : TypeId × Value → H) :
    ReturnsInHanded {} Tryz.checked os 10 .any (Rows.vertexKeepsSpec.pre6 enc Tryz.prog Tryz.f10 Rows.vertexKeepsRow.domain false) (Rows.vertexKeepsSpec.post enc Tryz.prog Tryz.f10 false true false false) := by
  refine returnsInHanded_of_change (C := Tryz.checked) own started (by kernel_rfl) Tryz.func10
    (ChangeSpec.witness6 (enc := enc) (C := Tryz.checked) false ⟨#[], #[.int .u8 0, .int .u8 0, .int .u8 0, .slice none 0 0, .int .u8 0], []⟩ 8 (by kernel_rfl) (by kernel_rfl) (by kernel_rfl) (by kernel_rfl)) ?_
  intro W base args ds gs before hval hW _ _
  exact contract H enc W base args ds gs before hval hW

theorem over : Rows.vertexKeepsRow.holds Tryz.pinned (OpenSpec.ofChange Rows.vertexKeepsSpec) :=
  OpenClaim.holds_of_wide 10 Tryz.f10 rfl rfl rfl rfl rfl rfl rfl ⟨rfl, rfl, rfl, rfl, rfl⟩ rfl rfl rfl rfl rfl (by kernel_rfl) Tryz.func10 (by kernel_rfl)
    (of_decide_eq_true (by kernel_rfl)) (by unfold Func.isWrapper; first | (rw [if_pos (by decide +kernel)]; kernel_rfl) | (rw [if_neg (by decide +kernel)]; exact ⟨rfl, rfl⟩))
    (fun os started H enc _ => lifted os started H enc)

theorem proved : Rows.VertexKeepsSaid :=
  over
end Go.Proofs.YthikenallhbkpaaGreat.vertexKeeps
end
