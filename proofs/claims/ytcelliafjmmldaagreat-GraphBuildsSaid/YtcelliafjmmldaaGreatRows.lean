/-
  No cell of these rows narrows 'for every input' (looked for: loops, veiled, ifaces, maps, wideKeys, modest, calm, conditions, laid).
  DERIVED. THE GIVEN ROWS OF THIS SEAT. 11 by the template 'for every input the law returns true; each argument reads behind the call as it read before'; 0 by the template 'total and deterministic' (their statements: YtcelliafjmmldaaGreatTotals.lean).
  GIVEN WITH THE SEED: the statements are not yours to turn. If you find one false, say at which input.
  Laid BY PROGRAM, IN A SANDBOX (cutbox-rows.mjs): the forced cells as the released guide's own fill.sh prints them over the translation 15a86ce1b2d9a0e7… (all of the seat's roots in one cut). By AI agents, Wed Nov 11 2026. No macro, syntax, notation, axiom, sorry.
-/
import Derived.Test.YtcelliafjmmldaaGreatChecked
import GoSem.Claim
import GoSem.ClaimJoined
import GoSem.ClaimMapViews
import Derived.JoinedTies
import Derived.KernelRfl
namespace Go.Proofs.YtcelliafjmmldaaGreat
/- THE CELL 'sum', in the pinned program and in every row, IS THE sha256 OF THE DUMP (.gsa) THAT YtcelliafjmmldaaGreatProg.lean LOADS. Nothing in Lean hashes anything: it is a label: what it is worth is what the hold of that sum in a sandbox is worth. -/
noncomputable def Tryz.pinned : Pinned := { name := "ytcelliafjmmldaagreat", sum := "15a86ce1b2d9a0e73d69a732451737efa7d6010464b0fd17970a1ed19e64fa8a", checked := Tryz.checked }
namespace Rows
def none {H : Type} : Left H := { results := [], args := [] }

/-- 'talweglaw24.SearchBest': WHATEVER THE INPUT: true; the input reads as it did. -/
def searchBestSpec : ChangeSpec := { name := "searchBest", fn := fun _ => fun
  | [d1, d2, d3, d4, d5] => { results := [.lit (.bool true)], args := [d1, d2, d3, d4, d5] }
  | _ => none }
def searchBestRow : OpenClaim := { program := "ytcelliafjmmldaagreat", sum := "15a86ce1b2d9a0e73d69a732451737efa7d6010464b0fd17970a1ed19e64fa8a", func := "talweg/talweglaw24.SearchBest", spec := "searchBest", unfollowed := true, recurses := true, plainKeys := false, apart := false }
def SearchBestSaid : Prop := searchBestRow.holds Tryz.pinned (OpenSpec.ofChange searchBestSpec)

/-- ITS FALSE NEIGHBOUR: 'it returns false'. Refute it at one input. -/
def searchBestWrong : ChangeSpec := { name := "searchBest", fn := fun _ => fun
  | [d1, d2, d3, d4, d5] => { results := [.lit (.bool false)], args := [d1, d2, d3, d4, d5] }
  | _ => none }
def SearchBestWrongFalsely : Prop := searchBestRow.holds Tryz.pinned (OpenSpec.ofChange searchBestWrong)

/-- 'talweglaw24.SearchBound': WHATEVER THE INPUT: true; the input reads as it did. -/
def searchBoundSpec : ChangeSpec := { name := "searchBound", fn := fun _ => fun
  | [d1, d2, d3, d4, d5] => { results := [.lit (.bool true)], args := [d1, d2, d3, d4, d5] }
  | _ => none }
def searchBoundRow : OpenClaim := { program := "ytcelliafjmmldaagreat", sum := "15a86ce1b2d9a0e73d69a732451737efa7d6010464b0fd17970a1ed19e64fa8a", func := "talweg/talweglaw24.SearchBound", spec := "searchBound", unfollowed := true, recurses := true, plainKeys := false, apart := false }
def SearchBoundSaid : Prop := searchBoundRow.holds Tryz.pinned (OpenSpec.ofChange searchBoundSpec)

/-- ITS FALSE NEIGHBOUR: 'it returns false'. Refute it at one input. -/
def searchBoundWrong : ChangeSpec := { name := "searchBound", fn := fun _ => fun
  | [d1, d2, d3, d4, d5] => { results := [.lit (.bool false)], args := [d1, d2, d3, d4, d5] }
  | _ => none }
def SearchBoundWrongFalsely : Prop := searchBoundRow.holds Tryz.pinned (OpenSpec.ofChange searchBoundWrong)

/-- 'talweglaw16.SlopeTells': WHATEVER THE INPUT: true; the input reads as it did. -/
def slopeTellsSpec : ChangeSpec := { name := "slopeTells", fn := fun _ => fun
  | [d1, d2, d3, d4] => { results := [.lit (.bool true)], args := [d1, d2, d3, d4] }
  | _ => none }
def slopeTellsRow : OpenClaim := { program := "ytcelliafjmmldaagreat", sum := "15a86ce1b2d9a0e73d69a732451737efa7d6010464b0fd17970a1ed19e64fa8a", func := "talweg/talweglaw16.SlopeTells", spec := "slopeTells", unfollowed := true, recurses := true, plainKeys := false, apart := false }
def SlopeTellsSaid : Prop := slopeTellsRow.holds Tryz.pinned (OpenSpec.ofChange slopeTellsSpec)

/-- ITS FALSE NEIGHBOUR: 'it returns false'. Refute it at one input. -/
def slopeTellsWrong : ChangeSpec := { name := "slopeTells", fn := fun _ => fun
  | [d1, d2, d3, d4] => { results := [.lit (.bool false)], args := [d1, d2, d3, d4] }
  | _ => none }
def SlopeTellsWrongFalsely : Prop := slopeTellsRow.holds Tryz.pinned (OpenSpec.ofChange slopeTellsWrong)

/-- 'talweglaw16.SlopeAlong': WHATEVER THE INPUT: true; the input reads as it did. -/
def slopeAlongSpec : ChangeSpec := { name := "slopeAlong", fn := fun _ => fun
  | [d1, d2, d3, d4, d5] => { results := [.lit (.bool true)], args := [d1, d2, d3, d4, d5] }
  | _ => none }
def slopeAlongRow : OpenClaim := { program := "ytcelliafjmmldaagreat", sum := "15a86ce1b2d9a0e73d69a732451737efa7d6010464b0fd17970a1ed19e64fa8a", func := "talweg/talweglaw16.SlopeAlong", spec := "slopeAlong", unfollowed := true, recurses := true, plainKeys := false, apart := false }
def SlopeAlongSaid : Prop := slopeAlongRow.holds Tryz.pinned (OpenSpec.ofChange slopeAlongSpec)

/-- ITS FALSE NEIGHBOUR: 'it returns false'. Refute it at one input. -/
def slopeAlongWrong : ChangeSpec := { name := "slopeAlong", fn := fun _ => fun
  | [d1, d2, d3, d4, d5] => { results := [.lit (.bool false)], args := [d1, d2, d3, d4, d5] }
  | _ => none }
def SlopeAlongWrongFalsely : Prop := slopeAlongRow.holds Tryz.pinned (OpenSpec.ofChange slopeAlongWrong)

/-- 'talweglaw16.SlopeSums': WHATEVER THE INPUT: true; the input reads as it did. -/
def slopeSumsSpec : ChangeSpec := { name := "slopeSums", fn := fun _ => fun
  | [d1, d2, d3, d4, d5, d6, d7] => { results := [.lit (.bool true)], args := [d1, d2, d3, d4, d5, d6, d7] }
  | _ => none }
def slopeSumsRow : OpenClaim := { program := "ytcelliafjmmldaagreat", sum := "15a86ce1b2d9a0e73d69a732451737efa7d6010464b0fd17970a1ed19e64fa8a", func := "talweg/talweglaw16.SlopeSums", spec := "slopeSums", unfollowed := true, recurses := true, plainKeys := false, apart := false }
def SlopeSumsSaid : Prop := slopeSumsRow.holds Tryz.pinned (OpenSpec.ofChange slopeSumsSpec)

/-- ITS FALSE NEIGHBOUR: 'it returns false'. Refute it at one input. -/
def slopeSumsWrong : ChangeSpec := { name := "slopeSums", fn := fun _ => fun
  | [d1, d2, d3, d4, d5, d6, d7] => { results := [.lit (.bool false)], args := [d1, d2, d3, d4, d5, d6, d7] }
  | _ => none }
def SlopeSumsWrongFalsely : Prop := slopeSumsRow.holds Tryz.pinned (OpenSpec.ofChange slopeSumsWrong)

/-- 'talweglaw17.GraphBuilds': WHATEVER THE INPUT: true; the input reads as it did. -/
def graphBuildsSpec : ChangeSpec := { name := "graphBuilds", fn := fun _ => fun
  | [d1, d2, d3, d4] => { results := [.lit (.bool true)], args := [d1, d2, d3, d4] }
  | _ => none }
def graphBuildsRow : OpenClaim := { program := "ytcelliafjmmldaagreat", sum := "15a86ce1b2d9a0e73d69a732451737efa7d6010464b0fd17970a1ed19e64fa8a", func := "talweg/talweglaw17.GraphBuilds", spec := "graphBuilds", unfollowed := true, recurses := true, plainKeys := false, apart := false }
def GraphBuildsSaid : Prop := graphBuildsRow.holds Tryz.pinned (OpenSpec.ofChange graphBuildsSpec)

/-- ITS FALSE NEIGHBOUR: 'it returns false'. Refute it at one input. -/
def graphBuildsWrong : ChangeSpec := { name := "graphBuilds", fn := fun _ => fun
  | [d1, d2, d3, d4] => { results := [.lit (.bool false)], args := [d1, d2, d3, d4] }
  | _ => none }
def GraphBuildsWrongFalsely : Prop := graphBuildsRow.holds Tryz.pinned (OpenSpec.ofChange graphBuildsWrong)

/-- 'talweglaw17.GraphJacobian': WHATEVER THE INPUT: true; the input reads as it did. -/
def graphJacobianSpec : ChangeSpec := { name := "graphJacobian", fn := fun _ => fun
  | [d1, d2, d3, d4] => { results := [.lit (.bool true)], args := [d1, d2, d3, d4] }
  | _ => none }
def graphJacobianRow : OpenClaim := { program := "ytcelliafjmmldaagreat", sum := "15a86ce1b2d9a0e73d69a732451737efa7d6010464b0fd17970a1ed19e64fa8a", func := "talweg/talweglaw17.GraphJacobian", spec := "graphJacobian", unfollowed := true, recurses := true, plainKeys := false, apart := false }
def GraphJacobianSaid : Prop := graphJacobianRow.holds Tryz.pinned (OpenSpec.ofChange graphJacobianSpec)

/-- ITS FALSE NEIGHBOUR: 'it returns false'. Refute it at one input. -/
def graphJacobianWrong : ChangeSpec := { name := "graphJacobian", fn := fun _ => fun
  | [d1, d2, d3, d4] => { results := [.lit (.bool false)], args := [d1, d2, d3, d4] }
  | _ => none }
def GraphJacobianWrongFalsely : Prop := graphJacobianRow.holds Tryz.pinned (OpenSpec.ofChange graphJacobianWrong)

/-- 'talweglaw22.ShapeVertex': WHATEVER THE INPUT: true; the input reads as it did. -/
def shapeVertexSpec : ChangeSpec := { name := "shapeVertex", fn := fun _ => fun
  | [d1, d2, d3, d4, d5, d6] => { results := [.lit (.bool true)], args := [d1, d2, d3, d4, d5, d6] }
  | _ => none }
def shapeVertexRow : OpenClaim := { program := "ytcelliafjmmldaagreat", sum := "15a86ce1b2d9a0e73d69a732451737efa7d6010464b0fd17970a1ed19e64fa8a", func := "talweg/talweglaw22.ShapeVertex", spec := "shapeVertex", unfollowed := true, recurses := true, plainKeys := false, apart := false }
def ShapeVertexSaid : Prop := shapeVertexRow.holds Tryz.pinned (OpenSpec.ofChange shapeVertexSpec)

/-- ITS FALSE NEIGHBOUR: 'it returns false'. Refute it at one input. -/
def shapeVertexWrong : ChangeSpec := { name := "shapeVertex", fn := fun _ => fun
  | [d1, d2, d3, d4, d5, d6] => { results := [.lit (.bool false)], args := [d1, d2, d3, d4, d5, d6] }
  | _ => none }
def ShapeVertexWrongFalsely : Prop := shapeVertexRow.holds Tryz.pinned (OpenSpec.ofChange shapeVertexWrong)

/-- 'talweglaw22.ShapeOf': WHATEVER THE INPUT: true; the input reads as it did. -/
def shapeOfSpec : ChangeSpec := { name := "shapeOf", fn := fun _ => fun
  | [d1, d2] => { results := [.lit (.bool true)], args := [d1, d2] }
  | _ => none }
def shapeOfRow : OpenClaim := { program := "ytcelliafjmmldaagreat", sum := "15a86ce1b2d9a0e73d69a732451737efa7d6010464b0fd17970a1ed19e64fa8a", func := "talweg/talweglaw22.ShapeOf", spec := "shapeOf", unfollowed := true, recurses := true, plainKeys := false, apart := false }
def ShapeOfSaid : Prop := shapeOfRow.holds Tryz.pinned (OpenSpec.ofChange shapeOfSpec)

/-- ITS FALSE NEIGHBOUR: 'it returns false'. Refute it at one input. -/
def shapeOfWrong : ChangeSpec := { name := "shapeOf", fn := fun _ => fun
  | [d1, d2] => { results := [.lit (.bool false)], args := [d1, d2] }
  | _ => none }
def ShapeOfWrongFalsely : Prop := shapeOfRow.holds Tryz.pinned (OpenSpec.ofChange shapeOfWrong)

/-- 'talweglaw19.EdgeVertex': WHATEVER THE INPUT: true; the input reads as it did. -/
def edgeVertexSpec : ChangeSpec := { name := "edgeVertex", fn := fun _ => fun
  | [d1, d2, d3, d4, d5, d6, d7] => { results := [.lit (.bool true)], args := [d1, d2, d3, d4, d5, d6, d7] }
  | _ => none }
def edgeVertexRow : OpenClaim := { program := "ytcelliafjmmldaagreat", sum := "15a86ce1b2d9a0e73d69a732451737efa7d6010464b0fd17970a1ed19e64fa8a", func := "talweg/talweglaw19.EdgeVertex", spec := "edgeVertex", inPlace := ["slices.overlaps[talweg/api.Edge]"], unfollowed := true, recurses := true, plainKeys := false, apart := false }
def EdgeVertexSaid : Prop := edgeVertexRow.holds Tryz.pinned (OpenSpec.ofChange edgeVertexSpec)

/-- ITS FALSE NEIGHBOUR: 'it returns false'. Refute it at one input. -/
def edgeVertexWrong : ChangeSpec := { name := "edgeVertex", fn := fun _ => fun
  | [d1, d2, d3, d4, d5, d6, d7] => { results := [.lit (.bool false)], args := [d1, d2, d3, d4, d5, d6, d7] }
  | _ => none }
def EdgeVertexWrongFalsely : Prop := edgeVertexRow.holds Tryz.pinned (OpenSpec.ofChange edgeVertexWrong)

/-- 'talweglaw22.ShapeBuilt': WHATEVER THE INPUT: true; the input reads as it did. -/
def shapeBuiltSpec : ChangeSpec := { name := "shapeBuilt", fn := fun _ => fun
  | [d1, d2, d3, d4] => { results := [.lit (.bool true)], args := [d1, d2, d3, d4] }
  | _ => none }
def shapeBuiltRow : OpenClaim := { program := "ytcelliafjmmldaagreat", sum := "15a86ce1b2d9a0e73d69a732451737efa7d6010464b0fd17970a1ed19e64fa8a", func := "talweg/talweglaw22.ShapeBuilt", spec := "shapeBuilt", unfollowed := true, recurses := true, plainKeys := false, apart := false }
def ShapeBuiltSaid : Prop := shapeBuiltRow.holds Tryz.pinned (OpenSpec.ofChange shapeBuiltSpec)

/-- ITS FALSE NEIGHBOUR: 'it returns false'. Refute it at one input. -/
def shapeBuiltWrong : ChangeSpec := { name := "shapeBuilt", fn := fun _ => fun
  | [d1, d2, d3, d4] => { results := [.lit (.bool false)], args := [d1, d2, d3, d4] }
  | _ => none }
def ShapeBuiltWrongFalsely : Prop := shapeBuiltRow.holds Tryz.pinned (OpenSpec.ofChange shapeBuiltWrong)

/- THE SECOND FORM. 'bulk': how many values and letters a reading holds, each counted each time it is reached (what is shared counts as often as it is met; a slice's spare places count too). A statement '..UptoSaid' is the law's where the arguments, and the package variables that the reading takes, are together of bulk at most 1048576: NARROWER than '..Said'. Prove '..Said' where nothing that the law and all that it calls make is longer than what came in: it says more and counts as full. Else prove '..UptoSaid'. A law counts once. -/
mutual
def uptoBulk {H : Type} : DataW H → Nat
  | .lit (.string bytes) => bytes.length + 1
  | .lit _ => 1
  | .nil => 1
  | .ptr d => uptoBulk d + 1
  | .slice elems spare => uptoBulkAll elems + uptoBulkAll spare + 1
  | .agg parts => uptoBulkAll parts + 1
  | .iface _ d => uptoBulk d + 1
  | .map entries => uptoBulkEntries entries + 1
  | .held _ => 1
def uptoBulkAll {H : Type} : List (DataW H) → Nat
  | [] => 0
  | d :: r => uptoBulk d + uptoBulkAll r
def uptoBulkEntries {H : Type} : List (Lit × DataW H) → Nat
  | [] => 0
  | x :: r => uptoBulkEntry x + uptoBulkEntries r
def uptoBulkEntry {H : Type} : Lit × DataW H → Nat
  | (.string bytes, d) => bytes.length + uptoBulk d + 1
  | (_, d) => uptoBulk d + 1
 end
def uptoSmall : (H : Type) → List (DataW H) → Bool := fun _ ds => decide (uptoBulkAll ds ≤ 1048576)
def OpenSpec.upto (s : _root_.Go.ChangeSpec) : _root_.Go.OpenSpec := { _root_.Go.OpenSpec.ofChange s with cond := some uptoSmall }

/-- 'talweglaw24.SearchBest', WHERE WHAT IT READS IS OF BULK AT MOST 1048576: true; the input reads as it did. -/
def searchBestUptoRow : OpenClaim := { program := "ytcelliafjmmldaagreat", sum := "15a86ce1b2d9a0e73d69a732451737efa7d6010464b0fd17970a1ed19e64fa8a", func := "talweg/talweglaw24.SearchBest", spec := "searchBest", unfollowed := true, recurses := true, plainKeys := false, apart := false, narrowed := true }
def SearchBestUptoSaid : Prop := searchBestUptoRow.holds Tryz.pinned (OpenSpec.upto searchBestSpec)

/-- 'talweglaw24.SearchBound', WHERE WHAT IT READS IS OF BULK AT MOST 1048576: true; the input reads as it did. -/
def searchBoundUptoRow : OpenClaim := { program := "ytcelliafjmmldaagreat", sum := "15a86ce1b2d9a0e73d69a732451737efa7d6010464b0fd17970a1ed19e64fa8a", func := "talweg/talweglaw24.SearchBound", spec := "searchBound", unfollowed := true, recurses := true, plainKeys := false, apart := false, narrowed := true }
def SearchBoundUptoSaid : Prop := searchBoundUptoRow.holds Tryz.pinned (OpenSpec.upto searchBoundSpec)

/-- 'talweglaw16.SlopeTells', WHERE WHAT IT READS IS OF BULK AT MOST 1048576: true; the input reads as it did. -/
def slopeTellsUptoRow : OpenClaim := { program := "ytcelliafjmmldaagreat", sum := "15a86ce1b2d9a0e73d69a732451737efa7d6010464b0fd17970a1ed19e64fa8a", func := "talweg/talweglaw16.SlopeTells", spec := "slopeTells", unfollowed := true, recurses := true, plainKeys := false, apart := false, narrowed := true }
def SlopeTellsUptoSaid : Prop := slopeTellsUptoRow.holds Tryz.pinned (OpenSpec.upto slopeTellsSpec)

/-- 'talweglaw16.SlopeAlong', WHERE WHAT IT READS IS OF BULK AT MOST 1048576: true; the input reads as it did. -/
def slopeAlongUptoRow : OpenClaim := { program := "ytcelliafjmmldaagreat", sum := "15a86ce1b2d9a0e73d69a732451737efa7d6010464b0fd17970a1ed19e64fa8a", func := "talweg/talweglaw16.SlopeAlong", spec := "slopeAlong", unfollowed := true, recurses := true, plainKeys := false, apart := false, narrowed := true }
def SlopeAlongUptoSaid : Prop := slopeAlongUptoRow.holds Tryz.pinned (OpenSpec.upto slopeAlongSpec)

/-- 'talweglaw16.SlopeSums', WHERE WHAT IT READS IS OF BULK AT MOST 1048576: true; the input reads as it did. -/
def slopeSumsUptoRow : OpenClaim := { program := "ytcelliafjmmldaagreat", sum := "15a86ce1b2d9a0e73d69a732451737efa7d6010464b0fd17970a1ed19e64fa8a", func := "talweg/talweglaw16.SlopeSums", spec := "slopeSums", unfollowed := true, recurses := true, plainKeys := false, apart := false, narrowed := true }
def SlopeSumsUptoSaid : Prop := slopeSumsUptoRow.holds Tryz.pinned (OpenSpec.upto slopeSumsSpec)

/-- 'talweglaw17.GraphBuilds', WHERE WHAT IT READS IS OF BULK AT MOST 1048576: true; the input reads as it did. -/
def graphBuildsUptoRow : OpenClaim := { program := "ytcelliafjmmldaagreat", sum := "15a86ce1b2d9a0e73d69a732451737efa7d6010464b0fd17970a1ed19e64fa8a", func := "talweg/talweglaw17.GraphBuilds", spec := "graphBuilds", unfollowed := true, recurses := true, plainKeys := false, apart := false, narrowed := true }
def GraphBuildsUptoSaid : Prop := graphBuildsUptoRow.holds Tryz.pinned (OpenSpec.upto graphBuildsSpec)

/-- 'talweglaw17.GraphJacobian', WHERE WHAT IT READS IS OF BULK AT MOST 1048576: true; the input reads as it did. -/
def graphJacobianUptoRow : OpenClaim := { program := "ytcelliafjmmldaagreat", sum := "15a86ce1b2d9a0e73d69a732451737efa7d6010464b0fd17970a1ed19e64fa8a", func := "talweg/talweglaw17.GraphJacobian", spec := "graphJacobian", unfollowed := true, recurses := true, plainKeys := false, apart := false, narrowed := true }
def GraphJacobianUptoSaid : Prop := graphJacobianUptoRow.holds Tryz.pinned (OpenSpec.upto graphJacobianSpec)

/-- 'talweglaw22.ShapeVertex', WHERE WHAT IT READS IS OF BULK AT MOST 1048576: true; the input reads as it did. -/
def shapeVertexUptoRow : OpenClaim := { program := "ytcelliafjmmldaagreat", sum := "15a86ce1b2d9a0e73d69a732451737efa7d6010464b0fd17970a1ed19e64fa8a", func := "talweg/talweglaw22.ShapeVertex", spec := "shapeVertex", unfollowed := true, recurses := true, plainKeys := false, apart := false, narrowed := true }
def ShapeVertexUptoSaid : Prop := shapeVertexUptoRow.holds Tryz.pinned (OpenSpec.upto shapeVertexSpec)

/-- 'talweglaw22.ShapeOf', WHERE WHAT IT READS IS OF BULK AT MOST 1048576: true; the input reads as it did. -/
def shapeOfUptoRow : OpenClaim := { program := "ytcelliafjmmldaagreat", sum := "15a86ce1b2d9a0e73d69a732451737efa7d6010464b0fd17970a1ed19e64fa8a", func := "talweg/talweglaw22.ShapeOf", spec := "shapeOf", unfollowed := true, recurses := true, plainKeys := false, apart := false, narrowed := true }
def ShapeOfUptoSaid : Prop := shapeOfUptoRow.holds Tryz.pinned (OpenSpec.upto shapeOfSpec)

/-- 'talweglaw19.EdgeVertex', WHERE WHAT IT READS IS OF BULK AT MOST 1048576: true; the input reads as it did. -/
def edgeVertexUptoRow : OpenClaim := { program := "ytcelliafjmmldaagreat", sum := "15a86ce1b2d9a0e73d69a732451737efa7d6010464b0fd17970a1ed19e64fa8a", func := "talweg/talweglaw19.EdgeVertex", spec := "edgeVertex", inPlace := ["slices.overlaps[talweg/api.Edge]"], unfollowed := true, recurses := true, plainKeys := false, apart := false, narrowed := true }
def EdgeVertexUptoSaid : Prop := edgeVertexUptoRow.holds Tryz.pinned (OpenSpec.upto edgeVertexSpec)

/-- 'talweglaw22.ShapeBuilt', WHERE WHAT IT READS IS OF BULK AT MOST 1048576: true; the input reads as it did. -/
def shapeBuiltUptoRow : OpenClaim := { program := "ytcelliafjmmldaagreat", sum := "15a86ce1b2d9a0e73d69a732451737efa7d6010464b0fd17970a1ed19e64fa8a", func := "talweg/talweglaw22.ShapeBuilt", spec := "shapeBuilt", unfollowed := true, recurses := true, plainKeys := false, apart := false, narrowed := true }
def ShapeBuiltUptoSaid : Prop := shapeBuiltUptoRow.holds Tryz.pinned (OpenSpec.upto shapeBuiltSpec)

end Rows
end Go.Proofs.YtcelliafjmmldaaGreat
