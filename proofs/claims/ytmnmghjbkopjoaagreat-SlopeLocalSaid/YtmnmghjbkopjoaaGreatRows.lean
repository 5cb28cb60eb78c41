/-
  No cell of these rows narrows 'for every input' (looked for: loops, veiled, ifaces, maps, wideKeys, modest, calm, conditions, laid).
  DERIVED. THE GIVEN ROWS OF THIS SEAT. 10 by the template 'for every input the law returns true; each argument reads behind the call as it read before'; 0 by the template 'total and deterministic' (their statements: YtmnmghjbkopjoaaGreatTotals.lean).
  GIVEN WITH THE SEED: the statements are not yours to turn. If you find one false, say at which input.
  Laid BY PROGRAM, IN A SANDBOX (cutbox-rows.mjs): the forced cells as the released guide's own fill.sh prints them over the translation f06127027c02afd0… (all of the seat's roots in one cut). By AI agents, Wed Nov 11 2026. No macro, syntax, notation, axiom, sorry.
-/
import Derived.Test.YtmnmghjbkopjoaaGreatChecked
import GoSem.Claim
import GoSem.ClaimJoined
import GoSem.ClaimMapViews
import Derived.JoinedTies
import Derived.KernelRfl
namespace Go.Proofs.YtmnmghjbkopjoaaGreat
/- THE CELL 'sum', in the pinned program and in every row, IS THE sha256 OF THE DUMP (.gsa) THAT YtmnmghjbkopjoaaGreatProg.lean LOADS. Nothing in Lean hashes anything: it is a label: what it is worth is what the hold of that sum in a sandbox is worth. -/
noncomputable def Tryz.pinned : Pinned := { name := "ytmnmghjbkopjoaagreat", sum := "f06127027c02afd05852de96f29089d4aebe4c3ba87eb372a8b74e6992395f44", checked := Tryz.checked }
namespace Rows
def none {H : Type} : Left H := { results := [], args := [] }

/-- 'talweglaw19.EdgeTells': WHATEVER THE INPUT: true; the input reads as it did. -/
def edgeTellsSpec : ChangeSpec := { name := "edgeTells", fn := fun _ => fun
  | [d1, d2, d3] => { results := [.lit (.bool true)], args := [d1, d2, d3] }
  | _ => none }
def edgeTellsRow : OpenClaim := { program := "ytmnmghjbkopjoaagreat", sum := "f06127027c02afd05852de96f29089d4aebe4c3ba87eb372a8b74e6992395f44", func := "talweg/talweglaw19.EdgeTells", spec := "edgeTells", inPlace := ["slices.overlaps[talweg/api.Edge]"], unfollowed := true, recurses := true, plainKeys := false, apart := false }
def EdgeTellsSaid : Prop := edgeTellsRow.holds Tryz.pinned (OpenSpec.ofChange edgeTellsSpec)

/-- ITS FALSE NEIGHBOUR: 'it returns false'. Refute it at one input. -/
def edgeTellsWrong : ChangeSpec := { name := "edgeTells", fn := fun _ => fun
  | [d1, d2, d3] => { results := [.lit (.bool false)], args := [d1, d2, d3] }
  | _ => none }
def EdgeTellsWrongFalsely : Prop := edgeTellsRow.holds Tryz.pinned (OpenSpec.ofChange edgeTellsWrong)

/-- 'talweglaw19.EdgeTwice': WHATEVER THE INPUT: true; the input reads as it did. -/
def edgeTwiceSpec : ChangeSpec := { name := "edgeTwice", fn := fun _ => fun
  | [d1, d2, d3, d4, d5, d6, d7] => { results := [.lit (.bool true)], args := [d1, d2, d3, d4, d5, d6, d7] }
  | _ => none }
def edgeTwiceRow : OpenClaim := { program := "ytmnmghjbkopjoaagreat", sum := "f06127027c02afd05852de96f29089d4aebe4c3ba87eb372a8b74e6992395f44", func := "talweg/talweglaw19.EdgeTwice", spec := "edgeTwice", inPlace := ["slices.overlaps[talweg/api.Edge]"], unfollowed := true, recurses := true, plainKeys := false, apart := false }
def EdgeTwiceSaid : Prop := edgeTwiceRow.holds Tryz.pinned (OpenSpec.ofChange edgeTwiceSpec)

/-- ITS FALSE NEIGHBOUR: 'it returns false'. Refute it at one input. -/
def edgeTwiceWrong : ChangeSpec := { name := "edgeTwice", fn := fun _ => fun
  | [d1, d2, d3, d4, d5, d6, d7] => { results := [.lit (.bool false)], args := [d1, d2, d3, d4, d5, d6, d7] }
  | _ => none }
def EdgeTwiceWrongFalsely : Prop := edgeTwiceRow.holds Tryz.pinned (OpenSpec.ofChange edgeTwiceWrong)

/-- 'talweglaw19.EdgeKeeps': WHATEVER THE INPUT: true; the input reads as it did. -/
def edgeKeepsSpec : ChangeSpec := { name := "edgeKeeps", fn := fun _ => fun
  | [d1, d2, d3, d4, d5, d6] => { results := [.lit (.bool true)], args := [d1, d2, d3, d4, d5, d6] }
  | _ => none }
def edgeKeepsRow : OpenClaim := { program := "ytmnmghjbkopjoaagreat", sum := "f06127027c02afd05852de96f29089d4aebe4c3ba87eb372a8b74e6992395f44", func := "talweg/talweglaw19.EdgeKeeps", spec := "edgeKeeps", inPlace := ["slices.overlaps[talweg/api.Edge]"], unfollowed := true, recurses := true, plainKeys := false, apart := false }
def EdgeKeepsSaid : Prop := edgeKeepsRow.holds Tryz.pinned (OpenSpec.ofChange edgeKeepsSpec)

/-- ITS FALSE NEIGHBOUR: 'it returns false'. Refute it at one input. -/
def edgeKeepsWrong : ChangeSpec := { name := "edgeKeeps", fn := fun _ => fun
  | [d1, d2, d3, d4, d5, d6] => { results := [.lit (.bool false)], args := [d1, d2, d3, d4, d5, d6] }
  | _ => none }
def EdgeKeepsWrongFalsely : Prop := edgeKeepsRow.holds Tryz.pinned (OpenSpec.ofChange edgeKeepsWrong)

/-- 'talweglaw23.OrderEach': WHATEVER THE INPUT: true; the input reads as it did. -/
def orderEachSpec : ChangeSpec := { name := "orderEach", fn := fun _ => fun
  | [d1, d2, d3, d4, d5] => { results := [.lit (.bool true)], args := [d1, d2, d3, d4, d5] }
  | _ => none }
def orderEachRow : OpenClaim := { program := "ytmnmghjbkopjoaagreat", sum := "f06127027c02afd05852de96f29089d4aebe4c3ba87eb372a8b74e6992395f44", func := "talweg/talweglaw23.OrderEach", spec := "orderEach", unfollowed := true, recurses := true, plainKeys := false, apart := false }
def OrderEachSaid : Prop := orderEachRow.holds Tryz.pinned (OpenSpec.ofChange orderEachSpec)

/-- ITS FALSE NEIGHBOUR: 'it returns false'. Refute it at one input. -/
def orderEachWrong : ChangeSpec := { name := "orderEach", fn := fun _ => fun
  | [d1, d2, d3, d4, d5] => { results := [.lit (.bool false)], args := [d1, d2, d3, d4, d5] }
  | _ => none }
def OrderEachWrongFalsely : Prop := orderEachRow.holds Tryz.pinned (OpenSpec.ofChange orderEachWrong)

/-- 'talweglaw24.SearchBest': WHATEVER THE INPUT: true; the input reads as it did. -/
def searchBestSpec : ChangeSpec := { name := "searchBest", fn := fun _ => fun
  | [d1, d2, d3, d4, d5] => { results := [.lit (.bool true)], args := [d1, d2, d3, d4, d5] }
  | _ => none }
def searchBestRow : OpenClaim := { program := "ytmnmghjbkopjoaagreat", sum := "f06127027c02afd05852de96f29089d4aebe4c3ba87eb372a8b74e6992395f44", func := "talweg/talweglaw24.SearchBest", spec := "searchBest", unfollowed := true, recurses := true, plainKeys := false, apart := false }
def SearchBestSaid : Prop := searchBestRow.holds Tryz.pinned (OpenSpec.ofChange searchBestSpec)

/-- ITS FALSE NEIGHBOUR: 'it returns false'. Refute it at one input. -/
def searchBestWrong : ChangeSpec := { name := "searchBest", fn := fun _ => fun
  | [d1, d2, d3, d4, d5] => { results := [.lit (.bool false)], args := [d1, d2, d3, d4, d5] }
  | _ => none }
def SearchBestWrongFalsely : Prop := searchBestRow.holds Tryz.pinned (OpenSpec.ofChange searchBestWrong)

/-- 'talweglaw24.SearchBound': WHATEVER THE INPUT: true; the input reads as it did. -/
def searchBoundSpec : ChangeSpec := { name := "searchBound", fn := fun _ => fun
  | [d1, d2, d3, d4, d5] => { results := [.lit (.bool true)], args := [d1, d2, d3, d4, d5] }
  | _ => none }
def searchBoundRow : OpenClaim := { program := "ytmnmghjbkopjoaagreat", sum := "f06127027c02afd05852de96f29089d4aebe4c3ba87eb372a8b74e6992395f44", func := "talweg/talweglaw24.SearchBound", spec := "searchBound", unfollowed := true, recurses := true, plainKeys := false, apart := false }
def SearchBoundSaid : Prop := searchBoundRow.holds Tryz.pinned (OpenSpec.ofChange searchBoundSpec)

/-- ITS FALSE NEIGHBOUR: 'it returns false'. Refute it at one input. -/
def searchBoundWrong : ChangeSpec := { name := "searchBound", fn := fun _ => fun
  | [d1, d2, d3, d4, d5] => { results := [.lit (.bool false)], args := [d1, d2, d3, d4, d5] }
  | _ => none }
def SearchBoundWrongFalsely : Prop := searchBoundRow.holds Tryz.pinned (OpenSpec.ofChange searchBoundWrong)

/-- 'talweglaw16.SlopeLocal': WHATEVER THE INPUT: true; the input reads as it did. -/
def slopeLocalSpec : ChangeSpec := { name := "slopeLocal", fn := fun _ => fun
  | [d1, d2, d3] => { results := [.lit (.bool true)], args := [d1, d2, d3] }
  | _ => none }
def slopeLocalRow : OpenClaim := { program := "ytmnmghjbkopjoaagreat", sum := "f06127027c02afd05852de96f29089d4aebe4c3ba87eb372a8b74e6992395f44", func := "talweg/talweglaw16.SlopeLocal", spec := "slopeLocal", unfollowed := true, recurses := true, plainKeys := false, apart := false }
def SlopeLocalSaid : Prop := slopeLocalRow.holds Tryz.pinned (OpenSpec.ofChange slopeLocalSpec)

/-- ITS FALSE NEIGHBOUR: 'it returns false'. Refute it at one input. -/
def slopeLocalWrong : ChangeSpec := { name := "slopeLocal", fn := fun _ => fun
  | [d1, d2, d3] => { results := [.lit (.bool false)], args := [d1, d2, d3] }
  | _ => none }
def SlopeLocalWrongFalsely : Prop := slopeLocalRow.holds Tryz.pinned (OpenSpec.ofChange slopeLocalWrong)

/-- 'talweglaw16.SlopeChord': WHATEVER THE INPUT: true; the input reads as it did. -/
def slopeChordSpec : ChangeSpec := { name := "slopeChord", fn := fun _ => fun
  | [d1, d2, d3, d4] => { results := [.lit (.bool true)], args := [d1, d2, d3, d4] }
  | _ => none }
def slopeChordRow : OpenClaim := { program := "ytmnmghjbkopjoaagreat", sum := "f06127027c02afd05852de96f29089d4aebe4c3ba87eb372a8b74e6992395f44", func := "talweg/talweglaw16.SlopeChord", spec := "slopeChord", unfollowed := true, recurses := true, plainKeys := false, apart := false }
def SlopeChordSaid : Prop := slopeChordRow.holds Tryz.pinned (OpenSpec.ofChange slopeChordSpec)

/-- ITS FALSE NEIGHBOUR: 'it returns false'. Refute it at one input. -/
def slopeChordWrong : ChangeSpec := { name := "slopeChord", fn := fun _ => fun
  | [d1, d2, d3, d4] => { results := [.lit (.bool false)], args := [d1, d2, d3, d4] }
  | _ => none }
def SlopeChordWrongFalsely : Prop := slopeChordRow.holds Tryz.pinned (OpenSpec.ofChange slopeChordWrong)

/-- 'talweglaw17.GraphTells': WHATEVER THE INPUT: true; the input reads as it did. -/
def graphTellsSpec : ChangeSpec := { name := "graphTells", fn := fun _ => fun
  | [d1, d2] => { results := [.lit (.bool true)], args := [d1, d2] }
  | _ => none }
def graphTellsRow : OpenClaim := { program := "ytmnmghjbkopjoaagreat", sum := "f06127027c02afd05852de96f29089d4aebe4c3ba87eb372a8b74e6992395f44", func := "talweg/talweglaw17.GraphTells", spec := "graphTells", unfollowed := true, recurses := true, plainKeys := false, apart := false }
def GraphTellsSaid : Prop := graphTellsRow.holds Tryz.pinned (OpenSpec.ofChange graphTellsSpec)

/-- ITS FALSE NEIGHBOUR: 'it returns false'. Refute it at one input. -/
def graphTellsWrong : ChangeSpec := { name := "graphTells", fn := fun _ => fun
  | [d1, d2] => { results := [.lit (.bool false)], args := [d1, d2] }
  | _ => none }
def GraphTellsWrongFalsely : Prop := graphTellsRow.holds Tryz.pinned (OpenSpec.ofChange graphTellsWrong)

/-- 'talweglaw18.VertexTells': WHATEVER THE INPUT: true; the input reads as it did. -/
def vertexTellsSpec : ChangeSpec := { name := "vertexTells", fn := fun _ => fun
  | [d1, d2] => { results := [.lit (.bool true)], args := [d1, d2] }
  | _ => none }
def vertexTellsRow : OpenClaim := { program := "ytmnmghjbkopjoaagreat", sum := "f06127027c02afd05852de96f29089d4aebe4c3ba87eb372a8b74e6992395f44", func := "talweg/talweglaw18.VertexTells", spec := "vertexTells", unfollowed := true, recurses := true, plainKeys := false, apart := false }
def VertexTellsSaid : Prop := vertexTellsRow.holds Tryz.pinned (OpenSpec.ofChange vertexTellsSpec)

/-- ITS FALSE NEIGHBOUR: 'it returns false'. Refute it at one input. -/
def vertexTellsWrong : ChangeSpec := { name := "vertexTells", fn := fun _ => fun
  | [d1, d2] => { results := [.lit (.bool false)], args := [d1, d2] }
  | _ => none }
def VertexTellsWrongFalsely : Prop := vertexTellsRow.holds Tryz.pinned (OpenSpec.ofChange vertexTellsWrong)

/- THE SECOND FORM. 'bulk': how many values and letters a reading holds, each counted each time it is reached (what is shared counts as often as it is met; a slice's spare places count too). A statement '..UptoSaid' is the law's where the arguments, and the package variables that the reading takes, are together of bulk at most 1048576: NARROWER than '..Said'. Prove '..Said' where nothing that the law and all that it calls make is longer than what came in: it says more and counts as full. Else prove '..UptoSaid'. A law counts once. -/
mutual
def uptoBulk {H : Type} : DataW H → Nat
  | .lit (.string bytes) => bytes.length + 1
  | .lit _ => 1
  | .nil => 1
  | .ptr d => uptoBulk d + 1
  | .slice elems spare => uptoBulkAll elems + uptoBulkAll spare + 1
  | .agg parts => uptoBulkAll parts + 1
  | .iface _ d => uptoBulk d + 1
  | .map entries => uptoBulkEntries entries + 1
  | .held _ => 1
def uptoBulkAll {H : Type} : List (DataW H) → Nat
  | [] => 0
  | d :: r => uptoBulk d + uptoBulkAll r
def uptoBulkEntries {H : Type} : List (Lit × DataW H) → Nat
  | [] => 0
  | x :: r => uptoBulkEntry x + uptoBulkEntries r
def uptoBulkEntry {H : Type} : Lit × DataW H → Nat
  | (.string bytes, d) => bytes.length + uptoBulk d + 1
  | (_, d) => uptoBulk d + 1
 end
def uptoSmall : (H : Type) → List (DataW H) → Bool := fun _ ds => decide (uptoBulkAll ds ≤ 1048576)
def OpenSpec.upto (s : _root_.Go.ChangeSpec) : _root_.Go.OpenSpec := { _root_.Go.OpenSpec.ofChange s with cond := some uptoSmall }

/-- 'talweglaw19.EdgeTells', WHERE WHAT IT READS IS OF BULK AT MOST 1048576: true; the input reads as it did. -/
def edgeTellsUptoRow : OpenClaim := { program := "ytmnmghjbkopjoaagreat", sum := "f06127027c02afd05852de96f29089d4aebe4c3ba87eb372a8b74e6992395f44", func := "talweg/talweglaw19.EdgeTells", spec := "edgeTells", inPlace := ["slices.overlaps[talweg/api.Edge]"], unfollowed := true, recurses := true, plainKeys := false, apart := false, narrowed := true }
def EdgeTellsUptoSaid : Prop := edgeTellsUptoRow.holds Tryz.pinned (OpenSpec.upto edgeTellsSpec)

/-- 'talweglaw19.EdgeTwice', WHERE WHAT IT READS IS OF BULK AT MOST 1048576: true; the input reads as it did. -/
def edgeTwiceUptoRow : OpenClaim := { program := "ytmnmghjbkopjoaagreat", sum := "f06127027c02afd05852de96f29089d4aebe4c3ba87eb372a8b74e6992395f44", func := "talweg/talweglaw19.EdgeTwice", spec := "edgeTwice", inPlace := ["slices.overlaps[talweg/api.Edge]"], unfollowed := true, recurses := true, plainKeys := false, apart := false, narrowed := true }
def EdgeTwiceUptoSaid : Prop := edgeTwiceUptoRow.holds Tryz.pinned (OpenSpec.upto edgeTwiceSpec)

/-- 'talweglaw19.EdgeKeeps', WHERE WHAT IT READS IS OF BULK AT MOST 1048576: true; the input reads as it did. -/
def edgeKeepsUptoRow : OpenClaim := { program := "ytmnmghjbkopjoaagreat", sum := "f06127027c02afd05852de96f29089d4aebe4c3ba87eb372a8b74e6992395f44", func := "talweg/talweglaw19.EdgeKeeps", spec := "edgeKeeps", inPlace := ["slices.overlaps[talweg/api.Edge]"], unfollowed := true, recurses := true, plainKeys := false, apart := false, narrowed := true }
def EdgeKeepsUptoSaid : Prop := edgeKeepsUptoRow.holds Tryz.pinned (OpenSpec.upto edgeKeepsSpec)

/-- 'talweglaw23.OrderEach', WHERE WHAT IT READS IS OF BULK AT MOST 1048576: true; the input reads as it did. -/
def orderEachUptoRow : OpenClaim := { program := "ytmnmghjbkopjoaagreat", sum := "f06127027c02afd05852de96f29089d4aebe4c3ba87eb372a8b74e6992395f44", func := "talweg/talweglaw23.OrderEach", spec := "orderEach", unfollowed := true, recurses := true, plainKeys := false, apart := false, narrowed := true }
def OrderEachUptoSaid : Prop := orderEachUptoRow.holds Tryz.pinned (OpenSpec.upto orderEachSpec)

/-- 'talweglaw24.SearchBest', WHERE WHAT IT READS IS OF BULK AT MOST 1048576: true; the input reads as it did. -/
def searchBestUptoRow : OpenClaim := { program := "ytmnmghjbkopjoaagreat", sum := "f06127027c02afd05852de96f29089d4aebe4c3ba87eb372a8b74e6992395f44", func := "talweg/talweglaw24.SearchBest", spec := "searchBest", unfollowed := true, recurses := true, plainKeys := false, apart := false, narrowed := true }
def SearchBestUptoSaid : Prop := searchBestUptoRow.holds Tryz.pinned (OpenSpec.upto searchBestSpec)

/-- 'talweglaw24.SearchBound', WHERE WHAT IT READS IS OF BULK AT MOST 1048576: true; the input reads as it did. -/
def searchBoundUptoRow : OpenClaim := { program := "ytmnmghjbkopjoaagreat", sum := "f06127027c02afd05852de96f29089d4aebe4c3ba87eb372a8b74e6992395f44", func := "talweg/talweglaw24.SearchBound", spec := "searchBound", unfollowed := true, recurses := true, plainKeys := false, apart := false, narrowed := true }
def SearchBoundUptoSaid : Prop := searchBoundUptoRow.holds Tryz.pinned (OpenSpec.upto searchBoundSpec)

/-- 'talweglaw16.SlopeLocal', WHERE WHAT IT READS IS OF BULK AT MOST 1048576: true; the input reads as it did. -/
def slopeLocalUptoRow : OpenClaim := { program := "ytmnmghjbkopjoaagreat", sum := "f06127027c02afd05852de96f29089d4aebe4c3ba87eb372a8b74e6992395f44", func := "talweg/talweglaw16.SlopeLocal", spec := "slopeLocal", unfollowed := true, recurses := true, plainKeys := false, apart := false, narrowed := true }
def SlopeLocalUptoSaid : Prop := slopeLocalUptoRow.holds Tryz.pinned (OpenSpec.upto slopeLocalSpec)

/-- 'talweglaw16.SlopeChord', WHERE WHAT IT READS IS OF BULK AT MOST 1048576: true; the input reads as it did. -/
def slopeChordUptoRow : OpenClaim := { program := "ytmnmghjbkopjoaagreat", sum := "f06127027c02afd05852de96f29089d4aebe4c3ba87eb372a8b74e6992395f44", func := "talweg/talweglaw16.SlopeChord", spec := "slopeChord", unfollowed := true, recurses := true, plainKeys := false, apart := false, narrowed := true }
def SlopeChordUptoSaid : Prop := slopeChordUptoRow.holds Tryz.pinned (OpenSpec.upto slopeChordSpec)

/-- 'talweglaw17.GraphTells', WHERE WHAT IT READS IS OF BULK AT MOST 1048576: true; the input reads as it did. -/
def graphTellsUptoRow : OpenClaim := { program := "ytmnmghjbkopjoaagreat", sum := "f06127027c02afd05852de96f29089d4aebe4c3ba87eb372a8b74e6992395f44", func := "talweg/talweglaw17.GraphTells", spec := "graphTells", unfollowed := true, recurses := true, plainKeys := false, apart := false, narrowed := true }
def GraphTellsUptoSaid : Prop := graphTellsUptoRow.holds Tryz.pinned (OpenSpec.upto graphTellsSpec)

/-- 'talweglaw18.VertexTells', WHERE WHAT IT READS IS OF BULK AT MOST 1048576: true; the input reads as it did. -/
def vertexTellsUptoRow : OpenClaim := { program := "ytmnmghjbkopjoaagreat", sum := "f06127027c02afd05852de96f29089d4aebe4c3ba87eb372a8b74e6992395f44", func := "talweg/talweglaw18.VertexTells", spec := "vertexTells", unfollowed := true, recurses := true, plainKeys := false, apart := false, narrowed := true }
def VertexTellsUptoSaid : Prop := vertexTellsUptoRow.holds Tryz.pinned (OpenSpec.upto vertexTellsSpec)

end Rows
end Go.Proofs.YtmnmghjbkopjoaaGreat
