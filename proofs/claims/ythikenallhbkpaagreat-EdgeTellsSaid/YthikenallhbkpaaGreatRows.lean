/-
  No cell of these rows narrows 'for every input' (looked for: loops, veiled, ifaces, maps, wideKeys, modest, calm, conditions, laid).
  DERIVED. THE GIVEN ROWS OF THIS SEAT. 9 by the template 'for every input the law returns true; each argument reads behind the call as it read before'; 0 by the template 'total and deterministic' (their statements: YthikenallhbkpaaGreatTotals.lean).
  GIVEN WITH THE SEED: the statements are not yours to turn. If you find one false, say at which input.
  Laid BY PROGRAM, IN A SANDBOX (cutbox-rows.mjs): the forced cells as the released guide's own fill.sh prints them over the translation 21dfff5b9f21d078… (all of the seat's roots in one cut). By AI agents, Wed Nov 11 2026. No macro, syntax, notation, axiom, sorry.
-/
import Derived.Test.YthikenallhbkpaaGreatChecked
import GoSem.Claim
import GoSem.ClaimJoined
import GoSem.ClaimMapViews
import Derived.JoinedTies
import Derived.KernelRfl
namespace Go.Proofs.YthikenallhbkpaaGreat
/- THE CELL 'sum', in the pinned program and in every row, IS THE sha256 OF THE DUMP (.gsa) THAT YthikenallhbkpaaGreatProg.lean LOADS. Nothing in Lean hashes anything: it is a label: what it is worth is what the hold of that sum in a sandbox is worth. -/
noncomputable def Tryz.pinned : Pinned := { name := "ythikenallhbkpaagreat", sum := "21dfff5b9f21d078d10ea3adf239faeb32ebfcab3e90a5f55e0259ccf3e4cd31", checked := Tryz.checked }
namespace Rows
def none {H : Type} : Left H := { results := [], args := [] }

/-- 'talweglaw19.EdgeTells': WHATEVER THE INPUT: true; the input reads as it did. -/
def edgeTellsSpec : ChangeSpec := { name := "edgeTells", fn := fun _ => fun
  | [d1, d2, d3] => { results := [.lit (.bool true)], args := [d1, d2, d3] }
  | _ => none }
def edgeTellsRow : OpenClaim := { program := "ythikenallhbkpaagreat", sum := "21dfff5b9f21d078d10ea3adf239faeb32ebfcab3e90a5f55e0259ccf3e4cd31", func := "talweg/talweglaw19.EdgeTells", spec := "edgeTells", inPlace := ["slices.overlaps[talweg/api.Edge]"], unfollowed := true, recurses := true, plainKeys := false, apart := false }
def EdgeTellsSaid : Prop := edgeTellsRow.holds Tryz.pinned (OpenSpec.ofChange edgeTellsSpec)

/-- ITS FALSE NEIGHBOUR: 'it returns false'. Refute it at one input. -/
def edgeTellsWrong : ChangeSpec := { name := "edgeTells", fn := fun _ => fun
  | [d1, d2, d3] => { results := [.lit (.bool false)], args := [d1, d2, d3] }
  | _ => none }
def EdgeTellsWrongFalsely : Prop := edgeTellsRow.holds Tryz.pinned (OpenSpec.ofChange edgeTellsWrong)

/-- 'talweglaw19.EdgeTwice': WHATEVER THE INPUT: true; the input reads as it did. -/
def edgeTwiceSpec : ChangeSpec := { name := "edgeTwice", fn := fun _ => fun
  | [d1, d2, d3, d4, d5, d6, d7] => { results := [.lit (.bool true)], args := [d1, d2, d3, d4, d5, d6, d7] }
  | _ => none }
def edgeTwiceRow : OpenClaim := { program := "ythikenallhbkpaagreat", sum := "21dfff5b9f21d078d10ea3adf239faeb32ebfcab3e90a5f55e0259ccf3e4cd31", func := "talweg/talweglaw19.EdgeTwice", spec := "edgeTwice", inPlace := ["slices.overlaps[talweg/api.Edge]"], unfollowed := true, recurses := true, plainKeys := false, apart := false }
def EdgeTwiceSaid : Prop := edgeTwiceRow.holds Tryz.pinned (OpenSpec.ofChange edgeTwiceSpec)

/-- ITS FALSE NEIGHBOUR: 'it returns false'. Refute it at one input. -/
def edgeTwiceWrong : ChangeSpec := { name := "edgeTwice", fn := fun _ => fun
  | [d1, d2, d3, d4, d5, d6, d7] => { results := [.lit (.bool false)], args := [d1, d2, d3, d4, d5, d6, d7] }
  | _ => none }
def EdgeTwiceWrongFalsely : Prop := edgeTwiceRow.holds Tryz.pinned (OpenSpec.ofChange edgeTwiceWrong)

/-- 'talweglaw19.EdgeKeeps': WHATEVER THE INPUT: true; the input reads as it did. -/
def edgeKeepsSpec : ChangeSpec := { name := "edgeKeeps", fn := fun _ => fun
  | [d1, d2, d3, d4, d5, d6] => { results := [.lit (.bool true)], args := [d1, d2, d3, d4, d5, d6] }
  | _ => none }
def edgeKeepsRow : OpenClaim := { program := "ythikenallhbkpaagreat", sum := "21dfff5b9f21d078d10ea3adf239faeb32ebfcab3e90a5f55e0259ccf3e4cd31", func := "talweg/talweglaw19.EdgeKeeps", spec := "edgeKeeps", inPlace := ["slices.overlaps[talweg/api.Edge]"], unfollowed := true, recurses := true, plainKeys := false, apart := false }
def EdgeKeepsSaid : Prop := edgeKeepsRow.holds Tryz.pinned (OpenSpec.ofChange edgeKeepsSpec)

/-- ITS FALSE NEIGHBOUR: 'it returns false'. Refute it at one input. -/
def edgeKeepsWrong : ChangeSpec := { name := "edgeKeeps", fn := fun _ => fun
  | [d1, d2, d3, d4, d5, d6] => { results := [.lit (.bool false)], args := [d1, d2, d3, d4, d5, d6] }
  | _ => none }
def EdgeKeepsWrongFalsely : Prop := edgeKeepsRow.holds Tryz.pinned (OpenSpec.ofChange edgeKeepsWrong)

/-- 'talweglaw16.SlopeLine': WHATEVER THE INPUT: true; the input reads as it did. -/
def slopeLineSpec : ChangeSpec := { name := "slopeLine", fn := fun _ => fun
  | [d1, d2, d3, d4, d5] => { results := [.lit (.bool true)], args := [d1, d2, d3, d4, d5] }
  | _ => none }
def slopeLineRow : OpenClaim := { program := "ythikenallhbkpaagreat", sum := "21dfff5b9f21d078d10ea3adf239faeb32ebfcab3e90a5f55e0259ccf3e4cd31", func := "talweg/talweglaw16.SlopeLine", spec := "slopeLine", unfollowed := true, recurses := true, plainKeys := false, apart := false }
def SlopeLineSaid : Prop := slopeLineRow.holds Tryz.pinned (OpenSpec.ofChange slopeLineSpec)

/-- ITS FALSE NEIGHBOUR: 'it returns false'. Refute it at one input. -/
def slopeLineWrong : ChangeSpec := { name := "slopeLine", fn := fun _ => fun
  | [d1, d2, d3, d4, d5] => { results := [.lit (.bool false)], args := [d1, d2, d3, d4, d5] }
  | _ => none }
def SlopeLineWrongFalsely : Prop := slopeLineRow.holds Tryz.pinned (OpenSpec.ofChange slopeLineWrong)

/-- 'talweglaw18.VertexTells': WHATEVER THE INPUT: true; the input reads as it did. -/
def vertexTellsSpec : ChangeSpec := { name := "vertexTells", fn := fun _ => fun
  | [d1, d2] => { results := [.lit (.bool true)], args := [d1, d2] }
  | _ => none }
def vertexTellsRow : OpenClaim := { program := "ythikenallhbkpaagreat", sum := "21dfff5b9f21d078d10ea3adf239faeb32ebfcab3e90a5f55e0259ccf3e4cd31", func := "talweg/talweglaw18.VertexTells", spec := "vertexTells", unfollowed := true, recurses := true, plainKeys := false, apart := false }
def VertexTellsSaid : Prop := vertexTellsRow.holds Tryz.pinned (OpenSpec.ofChange vertexTellsSpec)

/-- ITS FALSE NEIGHBOUR: 'it returns false'. Refute it at one input. -/
def vertexTellsWrong : ChangeSpec := { name := "vertexTells", fn := fun _ => fun
  | [d1, d2] => { results := [.lit (.bool false)], args := [d1, d2] }
  | _ => none }
def VertexTellsWrongFalsely : Prop := vertexTellsRow.holds Tryz.pinned (OpenSpec.ofChange vertexTellsWrong)

/-- 'talweglaw18.VertexOrders': WHATEVER THE INPUT: true; the input reads as it did. -/
def vertexOrdersSpec : ChangeSpec := { name := "vertexOrders", fn := fun _ => fun
  | [d1, d2, d3, d4, d5] => { results := [.lit (.bool true)], args := [d1, d2, d3, d4, d5] }
  | _ => none }
def vertexOrdersRow : OpenClaim := { program := "ythikenallhbkpaagreat", sum := "21dfff5b9f21d078d10ea3adf239faeb32ebfcab3e90a5f55e0259ccf3e4cd31", func := "talweg/talweglaw18.VertexOrders", spec := "vertexOrders", unfollowed := true, recurses := true, plainKeys := false, apart := false }
def VertexOrdersSaid : Prop := vertexOrdersRow.holds Tryz.pinned (OpenSpec.ofChange vertexOrdersSpec)

/-- ITS FALSE NEIGHBOUR: 'it returns false'. Refute it at one input. -/
def vertexOrdersWrong : ChangeSpec := { name := "vertexOrders", fn := fun _ => fun
  | [d1, d2, d3, d4, d5] => { results := [.lit (.bool false)], args := [d1, d2, d3, d4, d5] }
  | _ => none }
def VertexOrdersWrongFalsely : Prop := vertexOrdersRow.holds Tryz.pinned (OpenSpec.ofChange vertexOrdersWrong)

/-- 'talweglaw18.VertexSwaps': WHATEVER THE INPUT: true; the input reads as it did. -/
def vertexSwapsSpec : ChangeSpec := { name := "vertexSwaps", fn := fun _ => fun
  | [d1, d2, d3, d4, d5, d6] => { results := [.lit (.bool true)], args := [d1, d2, d3, d4, d5, d6] }
  | _ => none }
def vertexSwapsRow : OpenClaim := { program := "ythikenallhbkpaagreat", sum := "21dfff5b9f21d078d10ea3adf239faeb32ebfcab3e90a5f55e0259ccf3e4cd31", func := "talweg/talweglaw18.VertexSwaps", spec := "vertexSwaps", unfollowed := true, recurses := true, plainKeys := false, apart := false }
def VertexSwapsSaid : Prop := vertexSwapsRow.holds Tryz.pinned (OpenSpec.ofChange vertexSwapsSpec)

/-- ITS FALSE NEIGHBOUR: 'it returns false'. Refute it at one input. -/
def vertexSwapsWrong : ChangeSpec := { name := "vertexSwaps", fn := fun _ => fun
  | [d1, d2, d3, d4, d5, d6] => { results := [.lit (.bool false)], args := [d1, d2, d3, d4, d5, d6] }
  | _ => none }
def VertexSwapsWrongFalsely : Prop := vertexSwapsRow.holds Tryz.pinned (OpenSpec.ofChange vertexSwapsWrong)

/-- 'talweglaw18.VertexKeeps': WHATEVER THE INPUT: true; the input reads as it did. -/
def vertexKeepsSpec : ChangeSpec := { name := "vertexKeeps", fn := fun _ => fun
  | [d1, d2, d3, d4, d5] => { results := [.lit (.bool true)], args := [d1, d2, d3, d4, d5] }
  | _ => none }
def vertexKeepsRow : OpenClaim := { program := "ythikenallhbkpaagreat", sum := "21dfff5b9f21d078d10ea3adf239faeb32ebfcab3e90a5f55e0259ccf3e4cd31", func := "talweg/talweglaw18.VertexKeeps", spec := "vertexKeeps", unfollowed := true, recurses := true, plainKeys := false, apart := false }
def VertexKeepsSaid : Prop := vertexKeepsRow.holds Tryz.pinned (OpenSpec.ofChange vertexKeepsSpec)

/-- ITS FALSE NEIGHBOUR: 'it returns false'. Refute it at one input. -/
def vertexKeepsWrong : ChangeSpec := { name := "vertexKeeps", fn := fun _ => fun
  | [d1, d2, d3, d4, d5] => { results := [.lit (.bool false)], args := [d1, d2, d3, d4, d5] }
  | _ => none }
def VertexKeepsWrongFalsely : Prop := vertexKeepsRow.holds Tryz.pinned (OpenSpec.ofChange vertexKeepsWrong)

/-- 'talweglaw18.VertexAll': WHATEVER THE INPUT: true; the input reads as it did. -/
def vertexAllSpec : ChangeSpec := { name := "vertexAll", fn := fun _ => fun
  | [d1, d2, d3, d4, d5] => { results := [.lit (.bool true)], args := [d1, d2, d3, d4, d5] }
  | _ => none }
def vertexAllRow : OpenClaim := { program := "ythikenallhbkpaagreat", sum := "21dfff5b9f21d078d10ea3adf239faeb32ebfcab3e90a5f55e0259ccf3e4cd31", func := "talweg/talweglaw18.VertexAll", spec := "vertexAll", unfollowed := true, recurses := true, plainKeys := false, apart := false }
def VertexAllSaid : Prop := vertexAllRow.holds Tryz.pinned (OpenSpec.ofChange vertexAllSpec)

/-- ITS FALSE NEIGHBOUR: 'it returns false'. Refute it at one input. -/
def vertexAllWrong : ChangeSpec := { name := "vertexAll", fn := fun _ => fun
  | [d1, d2, d3, d4, d5] => { results := [.lit (.bool false)], args := [d1, d2, d3, d4, d5] }
  | _ => none }
def VertexAllWrongFalsely : Prop := vertexAllRow.holds Tryz.pinned (OpenSpec.ofChange vertexAllWrong)

/- THE SECOND FORM. 'bulk': how many values and letters a reading holds, each counted each time it is reached (what is shared counts as often as it is met; a slice's spare places count too). A statement '..UptoSaid' is the law's where the arguments, and the package variables that the reading takes, are together of bulk at most 1048576: NARROWER than '..Said'. Prove '..Said' where nothing that the law and all that it calls make is longer than what came in: it says more and counts as full. Else prove '..UptoSaid'. A law counts once. -/
mutual
def uptoBulk {H : Type} : DataW H → Nat
  | .lit (.string bytes) => bytes.length + 1
  | .lit _ => 1
  | .nil => 1
  | .ptr d => uptoBulk d + 1
  | .slice elems spare => uptoBulkAll elems + uptoBulkAll spare + 1
  | .agg parts => uptoBulkAll parts + 1
  | .iface _ d => uptoBulk d + 1
  | .map entries => uptoBulkEntries entries + 1
  | .held _ => 1
def uptoBulkAll {H : Type} : List (DataW H) → Nat
  | [] => 0
  | d :: r => uptoBulk d + uptoBulkAll r
def uptoBulkEntries {H : Type} : List (Lit × DataW H) → Nat
  | [] => 0
  | x :: r => uptoBulkEntry x + uptoBulkEntries r
def uptoBulkEntry {H : Type} : Lit × DataW H → Nat
  | (.string bytes, d) => bytes.length + uptoBulk d + 1
  | (_, d) => uptoBulk d + 1
 end
def uptoSmall : (H : Type) → List (DataW H) → Bool := fun _ ds => decide (uptoBulkAll ds ≤ 1048576)
def OpenSpec.upto (s : _root_.Go.ChangeSpec) : _root_.Go.OpenSpec := { _root_.Go.OpenSpec.ofChange s with cond := some uptoSmall }

/-- 'talweglaw19.EdgeTells', WHERE WHAT IT READS IS OF BULK AT MOST 1048576: true; the input reads as it did. -/
def edgeTellsUptoRow : OpenClaim := { program := "ythikenallhbkpaagreat", sum := "21dfff5b9f21d078d10ea3adf239faeb32ebfcab3e90a5f55e0259ccf3e4cd31", func := "talweg/talweglaw19.EdgeTells", spec := "edgeTells", inPlace := ["slices.overlaps[talweg/api.Edge]"], unfollowed := true, recurses := true, plainKeys := false, apart := false, narrowed := true }
def EdgeTellsUptoSaid : Prop := edgeTellsUptoRow.holds Tryz.pinned (OpenSpec.upto edgeTellsSpec)

/-- 'talweglaw19.EdgeTwice', WHERE WHAT IT READS IS OF BULK AT MOST 1048576: true; the input reads as it did. -/
def edgeTwiceUptoRow : OpenClaim := { program := "ythikenallhbkpaagreat", sum := "21dfff5b9f21d078d10ea3adf239faeb32ebfcab3e90a5f55e0259ccf3e4cd31", func := "talweg/talweglaw19.EdgeTwice", spec := "edgeTwice", inPlace := ["slices.overlaps[talweg/api.Edge]"], unfollowed := true, recurses := true, plainKeys := false, apart := false, narrowed := true }
def EdgeTwiceUptoSaid : Prop := edgeTwiceUptoRow.holds Tryz.pinned (OpenSpec.upto edgeTwiceSpec)

/-- 'talweglaw19.EdgeKeeps', WHERE WHAT IT READS IS OF BULK AT MOST 1048576: true; the input reads as it did. -/
def edgeKeepsUptoRow : OpenClaim := { program := "ythikenallhbkpaagreat", sum := "21dfff5b9f21d078d10ea3adf239faeb32ebfcab3e90a5f55e0259ccf3e4cd31", func := "talweg/talweglaw19.EdgeKeeps", spec := "edgeKeeps", inPlace := ["slices.overlaps[talweg/api.Edge]"], unfollowed := true, recurses := true, plainKeys := false, apart := false, narrowed := true }
def EdgeKeepsUptoSaid : Prop := edgeKeepsUptoRow.holds Tryz.pinned (OpenSpec.upto edgeKeepsSpec)

/-- 'talweglaw16.SlopeLine', WHERE WHAT IT READS IS OF BULK AT MOST 1048576: true; the input reads as it did. -/
def slopeLineUptoRow : OpenClaim := { program := "ythikenallhbkpaagreat", sum := "21dfff5b9f21d078d10ea3adf239faeb32ebfcab3e90a5f55e0259ccf3e4cd31", func := "talweg/talweglaw16.SlopeLine", spec := "slopeLine", unfollowed := true, recurses := true, plainKeys := false, apart := false, narrowed := true }
def SlopeLineUptoSaid : Prop := slopeLineUptoRow.holds Tryz.pinned (OpenSpec.upto slopeLineSpec)

/-- 'talweglaw18.VertexTells', WHERE WHAT IT READS IS OF BULK AT MOST 1048576: true; the input reads as it did. -/
def vertexTellsUptoRow : OpenClaim := { program := "ythikenallhbkpaagreat", sum := "21dfff5b9f21d078d10ea3adf239faeb32ebfcab3e90a5f55e0259ccf3e4cd31", func := "talweg/talweglaw18.VertexTells", spec := "vertexTells", unfollowed := true, recurses := true, plainKeys := false, apart := false, narrowed := true }
def VertexTellsUptoSaid : Prop := vertexTellsUptoRow.holds Tryz.pinned (OpenSpec.upto vertexTellsSpec)

/-- 'talweglaw18.VertexOrders', WHERE WHAT IT READS IS OF BULK AT MOST 1048576: true; the input reads as it did. -/
def vertexOrdersUptoRow : OpenClaim := { program := "ythikenallhbkpaagreat", sum := "21dfff5b9f21d078d10ea3adf239faeb32ebfcab3e90a5f55e0259ccf3e4cd31", func := "talweg/talweglaw18.VertexOrders", spec := "vertexOrders", unfollowed := true, recurses := true, plainKeys := false, apart := false, narrowed := true }
def VertexOrdersUptoSaid : Prop := vertexOrdersUptoRow.holds Tryz.pinned (OpenSpec.upto vertexOrdersSpec)

/-- 'talweglaw18.VertexSwaps', WHERE WHAT IT READS IS OF BULK AT MOST 1048576: true; the input reads as it did. -/
def vertexSwapsUptoRow : OpenClaim := { program := "ythikenallhbkpaagreat", sum := "21dfff5b9f21d078d10ea3adf239faeb32ebfcab3e90a5f55e0259ccf3e4cd31", func := "talweg/talweglaw18.VertexSwaps", spec := "vertexSwaps", unfollowed := true, recurses := true, plainKeys := false, apart := false, narrowed := true }
def VertexSwapsUptoSaid : Prop := vertexSwapsUptoRow.holds Tryz.pinned (OpenSpec.upto vertexSwapsSpec)

/-- 'talweglaw18.VertexKeeps', WHERE WHAT IT READS IS OF BULK AT MOST 1048576: true; the input reads as it did. -/
def vertexKeepsUptoRow : OpenClaim := { program := "ythikenallhbkpaagreat", sum := "21dfff5b9f21d078d10ea3adf239faeb32ebfcab3e90a5f55e0259ccf3e4cd31", func := "talweg/talweglaw18.VertexKeeps", spec := "vertexKeeps", unfollowed := true, recurses := true, plainKeys := false, apart := false, narrowed := true }
def VertexKeepsUptoSaid : Prop := vertexKeepsUptoRow.holds Tryz.pinned (OpenSpec.upto vertexKeepsSpec)

/-- 'talweglaw18.VertexAll', WHERE WHAT IT READS IS OF BULK AT MOST 1048576: true; the input reads as it did. -/
def vertexAllUptoRow : OpenClaim := { program := "ythikenallhbkpaagreat", sum := "21dfff5b9f21d078d10ea3adf239faeb32ebfcab3e90a5f55e0259ccf3e4cd31", func := "talweg/talweglaw18.VertexAll", spec := "vertexAll", unfollowed := true, recurses := true, plainKeys := false, apart := false, narrowed := true }
def VertexAllUptoSaid : Prop := vertexAllUptoRow.holds Tryz.pinned (OpenSpec.upto vertexAllSpec)

end Rows
end Go.Proofs.YthikenallhbkpaaGreat
