/-
  No cell of these rows narrows 'for every input' (looked for: loops, veiled, ifaces, maps, wideKeys, modest, calm, conditions, laid).
  DERIVED. THE GIVEN ROWS OF THIS SEAT. 3 by the template 'for every input the law returns true; each argument reads behind the call as it read before'; 0 by the template 'total and deterministic' (their statements: YthikenallhbkpaaTotals.lean).
  GIVEN WITH THE SEED: the statements are not yours to turn. If you find one false, say at which input.
  Laid BY PROGRAM, IN A SANDBOX (cutbox-rows.mjs): the forced cells as the released guide's own fill.sh prints them over the translation e8c6c746605c402e… (all of the seat's roots in one cut). By AI agents, Wed Nov 11 2026. No macro, syntax, notation, axiom, sorry.
-/
import Derived.Test.YthikenallhbkpaaChecked
import GoSem.Claim
import GoSem.ClaimJoined
import GoSem.ClaimMapViews
import Derived.JoinedTies
import Derived.KernelRfl
namespace Go.Proofs.Ythikenallhbkpaa
/- THE CELL 'sum', in the pinned program and in every row, IS THE sha256 OF THE DUMP (.gsa) THAT YthikenallhbkpaaProg.lean LOADS. Nothing in Lean hashes anything: it is a label: what it is worth is what the hold of that sum in a sandbox is worth. -/
noncomputable def Try.pinned : Pinned := { name := "ythikenallhbkpaa", sum := "e8c6c746605c402e88fa16efa90a604323523d5ac36cc8e70cb8d853295ae4a7", checked := Try.checked }
namespace Rows
def none {H : Type} : Left H := { results := [], args := [] }

/-- 'talweglaw27.RegsLive': WHATEVER THE INPUT: true; the input reads as it did. -/
def regsLiveSpec : ChangeSpec := { name := "regsLive", fn := fun _ => fun
  | [d] => { results := [.lit (.bool true)], args := [d] }
  | _ => none }
def regsLiveRow : OpenClaim := { program := "ythikenallhbkpaa", sum := "e8c6c746605c402e88fa16efa90a604323523d5ac36cc8e70cb8d853295ae4a7", func := "talweg/talweglaw27.RegsLive", spec := "regsLive", unfollowed := true, recurses := true, apart := false }
def RegsLiveSaid : Prop := regsLiveRow.holds Try.pinned (OpenSpec.ofChange regsLiveSpec)

/-- ITS FALSE NEIGHBOUR: 'it returns false'. Refute it at one input. -/
def regsLiveWrong : ChangeSpec := { name := "regsLive", fn := fun _ => fun
  | [d] => { results := [.lit (.bool false)], args := [d] }
  | _ => none }
def RegsLiveWrongFalsely : Prop := regsLiveRow.holds Try.pinned (OpenSpec.ofChange regsLiveWrong)

/-- 'talweglaw27.RegsAssign': WHATEVER THE INPUT: true; the input reads as it did. -/
def regsAssignSpec : ChangeSpec := { name := "regsAssign", fn := fun _ => fun
  | [d] => { results := [.lit (.bool true)], args := [d] }
  | _ => none }
def regsAssignRow : OpenClaim := { program := "ythikenallhbkpaa", sum := "e8c6c746605c402e88fa16efa90a604323523d5ac36cc8e70cb8d853295ae4a7", func := "talweg/talweglaw27.RegsAssign", spec := "regsAssign", unfollowed := true, recurses := true, apart := false }
def RegsAssignSaid : Prop := regsAssignRow.holds Try.pinned (OpenSpec.ofChange regsAssignSpec)

/-- ITS FALSE NEIGHBOUR: 'it returns false'. Refute it at one input. -/
def regsAssignWrong : ChangeSpec := { name := "regsAssign", fn := fun _ => fun
  | [d] => { results := [.lit (.bool false)], args := [d] }
  | _ => none }
def RegsAssignWrongFalsely : Prop := regsAssignRow.holds Try.pinned (OpenSpec.ofChange regsAssignWrong)

/-- 'talweglaw27.RegsAgain': WHATEVER THE INPUT: true; the input reads as it did. -/
def regsAgainSpec : ChangeSpec := { name := "regsAgain", fn := fun _ => fun
  | [d1, d2, d3, d4] => { results := [.lit (.bool true)], args := [d1, d2, d3, d4] }
  | _ => none }
def regsAgainRow : OpenClaim := { program := "ythikenallhbkpaa", sum := "e8c6c746605c402e88fa16efa90a604323523d5ac36cc8e70cb8d853295ae4a7", func := "talweg/talweglaw27.RegsAgain", spec := "regsAgain", unfollowed := true, recurses := true, apart := false }
def RegsAgainSaid : Prop := regsAgainRow.holds Try.pinned (OpenSpec.ofChange regsAgainSpec)

/-- ITS FALSE NEIGHBOUR: 'it returns false'. Refute it at one input. -/
def regsAgainWrong : ChangeSpec := { name := "regsAgain", fn := fun _ => fun
  | [d1, d2, d3, d4] => { results := [.lit (.bool false)], args := [d1, d2, d3, d4] }
  | _ => none }
def RegsAgainWrongFalsely : Prop := regsAgainRow.holds Try.pinned (OpenSpec.ofChange regsAgainWrong)

/- THE SECOND FORM. 'bulk': how many values and letters a reading holds, each counted each time it is reached (what is shared counts as often as it is met; a slice's spare places count too). A statement '..UptoSaid' is the law's where the arguments, and the package variables that the reading takes, are together of bulk at most 1048576: NARROWER than '..Said'. Prove '..Said' where nothing that the law and all that it calls make is longer than what came in: it says more and counts as full. Else prove '..UptoSaid'. A law counts once. -/
mutual
def uptoBulk {H : Type} : DataW H → Nat
  | .lit (.string bytes) => bytes.length + 1
  | .lit _ => 1
  | .nil => 1
  | .ptr d => uptoBulk d + 1
  | .slice elems spare => uptoBulkAll elems + uptoBulkAll spare + 1
  | .agg parts => uptoBulkAll parts + 1
  | .iface _ d => uptoBulk d + 1
  | .map entries => uptoBulkEntries entries + 1
  | .held _ => 1
def uptoBulkAll {H : Type} : List (DataW H) → Nat
  | [] => 0
  | d :: r => uptoBulk d + uptoBulkAll r
def uptoBulkEntries {H : Type} : List (Lit × DataW H) → Nat
  | [] => 0
  | x :: r => uptoBulkEntry x + uptoBulkEntries r
def uptoBulkEntry {H : Type} : Lit × DataW H → Nat
  | (.string bytes, d) => bytes.length + uptoBulk d + 1
  | (_, d) => uptoBulk d + 1
 end
def uptoSmall : (H : Type) → List (DataW H) → Bool := fun _ ds => decide (uptoBulkAll ds ≤ 1048576)
def OpenSpec.upto (s : _root_.Go.ChangeSpec) : _root_.Go.OpenSpec := { _root_.Go.OpenSpec.ofChange s with cond := some uptoSmall }

/-- 'talweglaw27.RegsLive', WHERE WHAT IT READS IS OF BULK AT MOST 1048576: true; the input reads as it did. -/
def regsLiveUptoRow : OpenClaim := { program := "ythikenallhbkpaa", sum := "e8c6c746605c402e88fa16efa90a604323523d5ac36cc8e70cb8d853295ae4a7", func := "talweg/talweglaw27.RegsLive", spec := "regsLive", unfollowed := true, recurses := true, apart := false, narrowed := true }
def RegsLiveUptoSaid : Prop := regsLiveUptoRow.holds Try.pinned (OpenSpec.upto regsLiveSpec)

/-- 'talweglaw27.RegsAssign', WHERE WHAT IT READS IS OF BULK AT MOST 1048576: true; the input reads as it did. -/
def regsAssignUptoRow : OpenClaim := { program := "ythikenallhbkpaa", sum := "e8c6c746605c402e88fa16efa90a604323523d5ac36cc8e70cb8d853295ae4a7", func := "talweg/talweglaw27.RegsAssign", spec := "regsAssign", unfollowed := true, recurses := true, apart := false, narrowed := true }
def RegsAssignUptoSaid : Prop := regsAssignUptoRow.holds Try.pinned (OpenSpec.upto regsAssignSpec)

/-- 'talweglaw27.RegsAgain', WHERE WHAT IT READS IS OF BULK AT MOST 1048576: true; the input reads as it did. -/
def regsAgainUptoRow : OpenClaim := { program := "ythikenallhbkpaa", sum := "e8c6c746605c402e88fa16efa90a604323523d5ac36cc8e70cb8d853295ae4a7", func := "talweg/talweglaw27.RegsAgain", spec := "regsAgain", unfollowed := true, recurses := true, apart := false, narrowed := true }
def RegsAgainUptoSaid : Prop := regsAgainUptoRow.holds Try.pinned (OpenSpec.upto regsAgainSpec)

end Rows
end Go.Proofs.Ythikenallhbkpaa
