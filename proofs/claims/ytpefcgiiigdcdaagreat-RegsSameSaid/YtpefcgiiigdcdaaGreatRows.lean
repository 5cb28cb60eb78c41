/-
  No cell of these rows narrows 'for every input' (looked for: loops, veiled, ifaces, maps, wideKeys, modest, calm, conditions, laid).
  DERIVED. THE GIVEN ROWS OF THIS SEAT. 6 by the template 'for every input the law returns true; each argument reads behind the call as it read before'; 0 by the template 'total and deterministic' (their statements: YtpefcgiiigdcdaaGreatTotals.lean).
  GIVEN WITH THE SEED: the statements are not yours to turn. If you find one false, say at which input.
  Laid BY PROGRAM, IN A SANDBOX (cutbox-rows.mjs): the forced cells as the released guide's own fill.sh prints them over the translation 701637b10bd81939… (all of the seat's roots in one cut). By AI agents, Wed Nov 11 2026. No macro, syntax, notation, axiom, sorry.
-/
import Derived.Test.YtpefcgiiigdcdaaGreatChecked
import GoSem.Claim
import GoSem.ClaimJoined
import GoSem.ClaimMapViews
import Derived.JoinedTies
import Derived.KernelRfl
namespace Go.Proofs.YtpefcgiiigdcdaaGreat
/- THE CELL 'sum', in the pinned program and in every row, IS THE sha256 OF THE DUMP (.gsa) THAT YtpefcgiiigdcdaaGreatProg.lean LOADS. Nothing in Lean hashes anything: it is a label: what it is worth is what the hold of that sum in a sandbox is worth. -/
noncomputable def Tryz.pinned : Pinned := { name := "ytpefcgiiigdcdaagreat", sum := "701637b10bd81939083154e8fe42d3bcf08ed676df54d5b894a8d98ba1de9b5a", checked := Tryz.checked }
namespace Rows
def none {H : Type} : Left H := { results := [], args := [] }

/-- 'talweglaw27.RegsSame': WHATEVER THE INPUT: true; the input reads as it did. -/
def regsSameSpec : ChangeSpec := { name := "regsSame", fn := fun _ => fun
  | [d1, d2, d3, d4, d5] => { results := [.lit (.bool true)], args := [d1, d2, d3, d4, d5] }
  | _ => none }
def regsSameRow : OpenClaim := { program := "ytpefcgiiigdcdaagreat", sum := "701637b10bd81939083154e8fe42d3bcf08ed676df54d5b894a8d98ba1de9b5a", func := "talweg/talweglaw27.RegsSame", spec := "regsSame", unfollowed := true, recurses := true, apart := false }
def RegsSameSaid : Prop := regsSameRow.holds Tryz.pinned (OpenSpec.ofChange regsSameSpec)

/-- ITS FALSE NEIGHBOUR: 'it returns false'. Refute it at one input. -/
def regsSameWrong : ChangeSpec := { name := "regsSame", fn := fun _ => fun
  | [d1, d2, d3, d4, d5] => { results := [.lit (.bool false)], args := [d1, d2, d3, d4, d5] }
  | _ => none }
def RegsSameWrongFalsely : Prop := regsSameRow.holds Tryz.pinned (OpenSpec.ofChange regsSameWrong)

/-- 'talweglaw24.SearchBest': WHATEVER THE INPUT: true; the input reads as it did. -/
def searchBestSpec : ChangeSpec := { name := "searchBest", fn := fun _ => fun
  | [d1, d2, d3, d4, d5] => { results := [.lit (.bool true)], args := [d1, d2, d3, d4, d5] }
  | _ => none }
def searchBestRow : OpenClaim := { program := "ytpefcgiiigdcdaagreat", sum := "701637b10bd81939083154e8fe42d3bcf08ed676df54d5b894a8d98ba1de9b5a", func := "talweg/talweglaw24.SearchBest", spec := "searchBest", unfollowed := true, recurses := true, apart := false }
def SearchBestSaid : Prop := searchBestRow.holds Tryz.pinned (OpenSpec.ofChange searchBestSpec)

/-- ITS FALSE NEIGHBOUR: 'it returns false'. Refute it at one input. -/
def searchBestWrong : ChangeSpec := { name := "searchBest", fn := fun _ => fun
  | [d1, d2, d3, d4, d5] => { results := [.lit (.bool false)], args := [d1, d2, d3, d4, d5] }
  | _ => none }
def SearchBestWrongFalsely : Prop := searchBestRow.holds Tryz.pinned (OpenSpec.ofChange searchBestWrong)

/-- 'talweglaw24.SearchBound': WHATEVER THE INPUT: true; the input reads as it did. -/
def searchBoundSpec : ChangeSpec := { name := "searchBound", fn := fun _ => fun
  | [d1, d2, d3, d4, d5] => { results := [.lit (.bool true)], args := [d1, d2, d3, d4, d5] }
  | _ => none }
def searchBoundRow : OpenClaim := { program := "ytpefcgiiigdcdaagreat", sum := "701637b10bd81939083154e8fe42d3bcf08ed676df54d5b894a8d98ba1de9b5a", func := "talweg/talweglaw24.SearchBound", spec := "searchBound", unfollowed := true, recurses := true, apart := false }
def SearchBoundSaid : Prop := searchBoundRow.holds Tryz.pinned (OpenSpec.ofChange searchBoundSpec)

/-- ITS FALSE NEIGHBOUR: 'it returns false'. Refute it at one input. -/
def searchBoundWrong : ChangeSpec := { name := "searchBound", fn := fun _ => fun
  | [d1, d2, d3, d4, d5] => { results := [.lit (.bool false)], args := [d1, d2, d3, d4, d5] }
  | _ => none }
def SearchBoundWrongFalsely : Prop := searchBoundRow.holds Tryz.pinned (OpenSpec.ofChange searchBoundWrong)

/-- 'talweglaw16.SlopeLine': WHATEVER THE INPUT: true; the input reads as it did. -/
def slopeLineSpec : ChangeSpec := { name := "slopeLine", fn := fun _ => fun
  | [d1, d2, d3, d4, d5] => { results := [.lit (.bool true)], args := [d1, d2, d3, d4, d5] }
  | _ => none }
def slopeLineRow : OpenClaim := { program := "ytpefcgiiigdcdaagreat", sum := "701637b10bd81939083154e8fe42d3bcf08ed676df54d5b894a8d98ba1de9b5a", func := "talweg/talweglaw16.SlopeLine", spec := "slopeLine", unfollowed := true, recurses := true, apart := false }
def SlopeLineSaid : Prop := slopeLineRow.holds Tryz.pinned (OpenSpec.ofChange slopeLineSpec)

/-- ITS FALSE NEIGHBOUR: 'it returns false'. Refute it at one input. -/
def slopeLineWrong : ChangeSpec := { name := "slopeLine", fn := fun _ => fun
  | [d1, d2, d3, d4, d5] => { results := [.lit (.bool false)], args := [d1, d2, d3, d4, d5] }
  | _ => none }
def SlopeLineWrongFalsely : Prop := slopeLineRow.holds Tryz.pinned (OpenSpec.ofChange slopeLineWrong)

/-- 'talweglaw22.ShapeOf': WHATEVER THE INPUT: true; the input reads as it did. -/
def shapeOfSpec : ChangeSpec := { name := "shapeOf", fn := fun _ => fun
  | [d1, d2] => { results := [.lit (.bool true)], args := [d1, d2] }
  | _ => none }
def shapeOfRow : OpenClaim := { program := "ytpefcgiiigdcdaagreat", sum := "701637b10bd81939083154e8fe42d3bcf08ed676df54d5b894a8d98ba1de9b5a", func := "talweg/talweglaw22.ShapeOf", spec := "shapeOf", unfollowed := true, recurses := true, apart := false }
def ShapeOfSaid : Prop := shapeOfRow.holds Tryz.pinned (OpenSpec.ofChange shapeOfSpec)

/-- ITS FALSE NEIGHBOUR: 'it returns false'. Refute it at one input. -/
def shapeOfWrong : ChangeSpec := { name := "shapeOf", fn := fun _ => fun
  | [d1, d2] => { results := [.lit (.bool false)], args := [d1, d2] }
  | _ => none }
def ShapeOfWrongFalsely : Prop := shapeOfRow.holds Tryz.pinned (OpenSpec.ofChange shapeOfWrong)

/-- 'talweglaw22.ShapeBuilt': WHATEVER THE INPUT: true; the input reads as it did. -/
def shapeBuiltSpec : ChangeSpec := { name := "shapeBuilt", fn := fun _ => fun
  | [d1, d2, d3, d4] => { results := [.lit (.bool true)], args := [d1, d2, d3, d4] }
  | _ => none }
def shapeBuiltRow : OpenClaim := { program := "ytpefcgiiigdcdaagreat", sum := "701637b10bd81939083154e8fe42d3bcf08ed676df54d5b894a8d98ba1de9b5a", func := "talweg/talweglaw22.ShapeBuilt", spec := "shapeBuilt", unfollowed := true, recurses := true, apart := false }
def ShapeBuiltSaid : Prop := shapeBuiltRow.holds Tryz.pinned (OpenSpec.ofChange shapeBuiltSpec)

/-- ITS FALSE NEIGHBOUR: 'it returns false'. Refute it at one input. -/
def shapeBuiltWrong : ChangeSpec := { name := "shapeBuilt", fn := fun _ => fun
  | [d1, d2, d3, d4] => { results := [.lit (.bool false)], args := [d1, d2, d3, d4] }
  | _ => none }
def ShapeBuiltWrongFalsely : Prop := shapeBuiltRow.holds Tryz.pinned (OpenSpec.ofChange shapeBuiltWrong)

/- THE SECOND FORM. 'bulk': how many values and letters a reading holds, each counted each time it is reached (what is shared counts as often as it is met; a slice's spare places count too). A statement '..UptoSaid' is the law's where the arguments, and the package variables that the reading takes, are together of bulk at most 1048576: NARROWER than '..Said'. Prove '..Said' where nothing that the law and all that it calls make is longer than what came in: it says more and counts as full. Else prove '..UptoSaid'. A law counts once. -/
mutual
def uptoBulk {H : Type} : DataW H → Nat
  | .lit (.string bytes) => bytes.length + 1
  | .lit _ => 1
  | .nil => 1
  | .ptr d => uptoBulk d + 1
  | .slice elems spare => uptoBulkAll elems + uptoBulkAll spare + 1
  | .agg parts => uptoBulkAll parts + 1
  | .iface _ d => uptoBulk d + 1
  | .map entries => uptoBulkEntries entries + 1
  | .held _ => 1
def uptoBulkAll {H : Type} : List (DataW H) → Nat
  | [] => 0
  | d :: r => uptoBulk d + uptoBulkAll r
def uptoBulkEntries {H : Type} : List (Lit × DataW H) → Nat
  | [] => 0
  | x :: r => uptoBulkEntry x + uptoBulkEntries r
def uptoBulkEntry {H : Type} : Lit × DataW H → Nat
  | (.string bytes, d) => bytes.length + uptoBulk d + 1
  | (_, d) => uptoBulk d + 1
 end
def uptoSmall : (H : Type) → List (DataW H) → Bool := fun _ ds => decide (uptoBulkAll ds ≤ 1048576)
def OpenSpec.upto (s : _root_.Go.ChangeSpec) : _root_.Go.OpenSpec := { _root_.Go.OpenSpec.ofChange s with cond := some uptoSmall }

/-- 'talweglaw27.RegsSame', WHERE WHAT IT READS IS OF BULK AT MOST 1048576: true; the input reads as it did. -/
def regsSameUptoRow : OpenClaim := { program := "ytpefcgiiigdcdaagreat", sum := "701637b10bd81939083154e8fe42d3bcf08ed676df54d5b894a8d98ba1de9b5a", func := "talweg/talweglaw27.RegsSame", spec := "regsSame", unfollowed := true, recurses := true, apart := false, narrowed := true }
def RegsSameUptoSaid : Prop := regsSameUptoRow.holds Tryz.pinned (OpenSpec.upto regsSameSpec)

/-- 'talweglaw24.SearchBest', WHERE WHAT IT READS IS OF BULK AT MOST 1048576: true; the input reads as it did. -/
def searchBestUptoRow : OpenClaim := { program := "ytpefcgiiigdcdaagreat", sum := "701637b10bd81939083154e8fe42d3bcf08ed676df54d5b894a8d98ba1de9b5a", func := "talweg/talweglaw24.SearchBest", spec := "searchBest", unfollowed := true, recurses := true, apart := false, narrowed := true }
def SearchBestUptoSaid : Prop := searchBestUptoRow.holds Tryz.pinned (OpenSpec.upto searchBestSpec)

/-- 'talweglaw24.SearchBound', WHERE WHAT IT READS IS OF BULK AT MOST 1048576: true; the input reads as it did. -/
def searchBoundUptoRow : OpenClaim := { program := "ytpefcgiiigdcdaagreat", sum := "701637b10bd81939083154e8fe42d3bcf08ed676df54d5b894a8d98ba1de9b5a", func := "talweg/talweglaw24.SearchBound", spec := "searchBound", unfollowed := true, recurses := true, apart := false, narrowed := true }
def SearchBoundUptoSaid : Prop := searchBoundUptoRow.holds Tryz.pinned (OpenSpec.upto searchBoundSpec)

/-- 'talweglaw16.SlopeLine', WHERE WHAT IT READS IS OF BULK AT MOST 1048576: true; the input reads as it did. -/
def slopeLineUptoRow : OpenClaim := { program := "ytpefcgiiigdcdaagreat", sum := "701637b10bd81939083154e8fe42d3bcf08ed676df54d5b894a8d98ba1de9b5a", func := "talweg/talweglaw16.SlopeLine", spec := "slopeLine", unfollowed := true, recurses := true, apart := false, narrowed := true }
def SlopeLineUptoSaid : Prop := slopeLineUptoRow.holds Tryz.pinned (OpenSpec.upto slopeLineSpec)

/-- 'talweglaw22.ShapeOf', WHERE WHAT IT READS IS OF BULK AT MOST 1048576: true; the input reads as it did. -/
def shapeOfUptoRow : OpenClaim := { program := "ytpefcgiiigdcdaagreat", sum := "701637b10bd81939083154e8fe42d3bcf08ed676df54d5b894a8d98ba1de9b5a", func := "talweg/talweglaw22.ShapeOf", spec := "shapeOf", unfollowed := true, recurses := true, apart := false, narrowed := true }
def ShapeOfUptoSaid : Prop := shapeOfUptoRow.holds Tryz.pinned (OpenSpec.upto shapeOfSpec)

/-- 'talweglaw22.ShapeBuilt', WHERE WHAT IT READS IS OF BULK AT MOST 1048576: true; the input reads as it did. -/
def shapeBuiltUptoRow : OpenClaim := { program := "ytpefcgiiigdcdaagreat", sum := "701637b10bd81939083154e8fe42d3bcf08ed676df54d5b894a8d98ba1de9b5a", func := "talweg/talweglaw22.ShapeBuilt", spec := "shapeBuilt", unfollowed := true, recurses := true, apart := false, narrowed := true }
def ShapeBuiltUptoSaid : Prop := shapeBuiltUptoRow.holds Tryz.pinned (OpenSpec.upto shapeBuiltSpec)

end Rows
end Go.Proofs.YtpefcgiiigdcdaaGreat
