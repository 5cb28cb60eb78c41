/-
  No cell of these rows narrows 'for every input' (looked for: loops, veiled, ifaces, maps, wideKeys, modest, calm, conditions, laid).
  DERIVED. THE GIVEN ROWS OF THIS SEAT. 12 by the template 'for every input the law returns true; each argument reads behind the call as it read before'; 0 by the template 'total and deterministic' (their statements: YtjboagogechleaaGreatTotals.lean).
  GIVEN WITH THE SEED: the statements are not yours to turn. If you find one false, say at which input.
  Laid BY PROGRAM, IN A SANDBOX (cutbox-rows.mjs): the forced cells as the released guide's own fill.sh prints them over the translation 73e16119b25f3469… (all of the seat's roots in one cut). By AI agents, Wed Nov 11 2026. No macro, syntax, notation, axiom, sorry.
-/
import Derived.Test.YtjboagogechleaaGreatChecked
import GoSem.Claim
import GoSem.ClaimJoined
import GoSem.ClaimMapViews
import Derived.JoinedTies
import Derived.KernelRfl
namespace Go.Proofs.YtjboagogechleaaGreat
/- THE CELL 'sum', in the pinned program and in every row, IS THE sha256 OF THE DUMP (.gsa) THAT YtjboagogechleaaGreatProg.lean LOADS. Nothing in Lean hashes anything: it is a label: what it is worth is what the hold of that sum in a sandbox is worth. -/
noncomputable def Tryz.pinned : Pinned := { name := "ytjboagogechleaagreat", sum := "73e16119b25f3469f80d0748e78268c9dadbf9180d6608ed9bd36bf8e9107286", checked := Tryz.checked }
namespace Rows
def none {H : Type} : Left H := { results := [], args := [] }

/-- 'talweglaw20.FaceGoes': WHATEVER THE INPUT: true; the input reads as it did. -/
def faceGoesSpec : ChangeSpec := { name := "faceGoes", fn := fun _ => fun
  | [d1, d2, d3] => { results := [.lit (.bool true)], args := [d1, d2, d3] }
  | _ => none }
def faceGoesRow : OpenClaim := { program := "ytjboagogechleaagreat", sum := "73e16119b25f3469f80d0748e78268c9dadbf9180d6608ed9bd36bf8e9107286", func := "talweg/talweglaw20.FaceGoes", spec := "faceGoes", unfollowed := true, recurses := true, plainKeys := false, apart := false }
def FaceGoesSaid : Prop := faceGoesRow.holds Tryz.pinned (OpenSpec.ofChange faceGoesSpec)

/-- ITS FALSE NEIGHBOUR: 'it returns false'. Refute it at one input. -/
def faceGoesWrong : ChangeSpec := { name := "faceGoes", fn := fun _ => fun
  | [d1, d2, d3] => { results := [.lit (.bool false)], args := [d1, d2, d3] }
  | _ => none }
def FaceGoesWrongFalsely : Prop := faceGoesRow.holds Tryz.pinned (OpenSpec.ofChange faceGoesWrong)

/-- 'talweglaw20.FacePlays': WHATEVER THE INPUT: true; the input reads as it did. -/
def facePlaysSpec : ChangeSpec := { name := "facePlays", fn := fun _ => fun
  | [d1, d2, d3, d4, d5] => { results := [.lit (.bool true)], args := [d1, d2, d3, d4, d5] }
  | _ => none }
def facePlaysRow : OpenClaim := { program := "ytjboagogechleaagreat", sum := "73e16119b25f3469f80d0748e78268c9dadbf9180d6608ed9bd36bf8e9107286", func := "talweg/talweglaw20.FacePlays", spec := "facePlays", unfollowed := true, recurses := true, plainKeys := false, apart := false }
def FacePlaysSaid : Prop := facePlaysRow.holds Tryz.pinned (OpenSpec.ofChange facePlaysSpec)

/-- ITS FALSE NEIGHBOUR: 'it returns false'. Refute it at one input. -/
def facePlaysWrong : ChangeSpec := { name := "facePlays", fn := fun _ => fun
  | [d1, d2, d3, d4, d5] => { results := [.lit (.bool false)], args := [d1, d2, d3, d4, d5] }
  | _ => none }
def FacePlaysWrongFalsely : Prop := facePlaysRow.holds Tryz.pinned (OpenSpec.ofChange facePlaysWrong)

/-- 'talweglaw20.FaceEnds': WHATEVER THE INPUT: true; the input reads as it did. -/
def faceEndsSpec : ChangeSpec := { name := "faceEnds", fn := fun _ => fun
  | [d1, d2, d3, d4, d5] => { results := [.lit (.bool true)], args := [d1, d2, d3, d4, d5] }
  | _ => none }
def faceEndsRow : OpenClaim := { program := "ytjboagogechleaagreat", sum := "73e16119b25f3469f80d0748e78268c9dadbf9180d6608ed9bd36bf8e9107286", func := "talweg/talweglaw20.FaceEnds", spec := "faceEnds", unfollowed := true, recurses := true, plainKeys := false, apart := false }
def FaceEndsSaid : Prop := faceEndsRow.holds Tryz.pinned (OpenSpec.ofChange faceEndsSpec)

/-- ITS FALSE NEIGHBOUR: 'it returns false'. Refute it at one input. -/
def faceEndsWrong : ChangeSpec := { name := "faceEnds", fn := fun _ => fun
  | [d1, d2, d3, d4, d5] => { results := [.lit (.bool false)], args := [d1, d2, d3, d4, d5] }
  | _ => none }
def FaceEndsWrongFalsely : Prop := faceEndsRow.holds Tryz.pinned (OpenSpec.ofChange faceEndsWrong)

/-- 'talweglaw20.FaceTells': WHATEVER THE INPUT: true; the input reads as it did. -/
def faceTellsSpec : ChangeSpec := { name := "faceTells", fn := fun _ => fun
  | [d] => { results := [.lit (.bool true)], args := [d] }
  | _ => none }
def faceTellsRow : OpenClaim := { program := "ytjboagogechleaagreat", sum := "73e16119b25f3469f80d0748e78268c9dadbf9180d6608ed9bd36bf8e9107286", func := "talweg/talweglaw20.FaceTells", spec := "faceTells", unfollowed := true, recurses := true, plainKeys := false, apart := false }
def FaceTellsSaid : Prop := faceTellsRow.holds Tryz.pinned (OpenSpec.ofChange faceTellsSpec)

/-- ITS FALSE NEIGHBOUR: 'it returns false'. Refute it at one input. -/
def faceTellsWrong : ChangeSpec := { name := "faceTells", fn := fun _ => fun
  | [d] => { results := [.lit (.bool false)], args := [d] }
  | _ => none }
def FaceTellsWrongFalsely : Prop := faceTellsRow.holds Tryz.pinned (OpenSpec.ofChange faceTellsWrong)

/-- 'talweglaw20.FaceKeeps': WHATEVER THE INPUT: true; the input reads as it did. -/
def faceKeepsSpec : ChangeSpec := { name := "faceKeeps", fn := fun _ => fun
  | [d1, d2, d3, d4, d5] => { results := [.lit (.bool true)], args := [d1, d2, d3, d4, d5] }
  | _ => none }
def faceKeepsRow : OpenClaim := { program := "ytjboagogechleaagreat", sum := "73e16119b25f3469f80d0748e78268c9dadbf9180d6608ed9bd36bf8e9107286", func := "talweg/talweglaw20.FaceKeeps", spec := "faceKeeps", unfollowed := true, recurses := true, plainKeys := false, apart := false }
def FaceKeepsSaid : Prop := faceKeepsRow.holds Tryz.pinned (OpenSpec.ofChange faceKeepsSpec)

/-- ITS FALSE NEIGHBOUR: 'it returns false'. Refute it at one input. -/
def faceKeepsWrong : ChangeSpec := { name := "faceKeeps", fn := fun _ => fun
  | [d1, d2, d3, d4, d5] => { results := [.lit (.bool false)], args := [d1, d2, d3, d4, d5] }
  | _ => none }
def FaceKeepsWrongFalsely : Prop := faceKeepsRow.holds Tryz.pinned (OpenSpec.ofChange faceKeepsWrong)

/-- 'talweglaw20.FaceOf': WHATEVER THE INPUT: true; the input reads as it did. -/
def faceOfSpec : ChangeSpec := { name := "faceOf", fn := fun _ => fun
  | [d] => { results := [.lit (.bool true)], args := [d] }
  | _ => none }
def faceOfRow : OpenClaim := { program := "ytjboagogechleaagreat", sum := "73e16119b25f3469f80d0748e78268c9dadbf9180d6608ed9bd36bf8e9107286", func := "talweg/talweglaw20.FaceOf", spec := "faceOf", unfollowed := true, recurses := true, plainKeys := false, apart := false }
def FaceOfSaid : Prop := faceOfRow.holds Tryz.pinned (OpenSpec.ofChange faceOfSpec)

/-- ITS FALSE NEIGHBOUR: 'it returns false'. Refute it at one input. -/
def faceOfWrong : ChangeSpec := { name := "faceOf", fn := fun _ => fun
  | [d] => { results := [.lit (.bool false)], args := [d] }
  | _ => none }
def FaceOfWrongFalsely : Prop := faceOfRow.holds Tryz.pinned (OpenSpec.ofChange faceOfWrong)

/-- 'talweglaw20.FaceVertex': WHATEVER THE INPUT: true; the input reads as it did. -/
def faceVertexSpec : ChangeSpec := { name := "faceVertex", fn := fun _ => fun
  | [d1, d2, d3, d4, d5, d6] => { results := [.lit (.bool true)], args := [d1, d2, d3, d4, d5, d6] }
  | _ => none }
def faceVertexRow : OpenClaim := { program := "ytjboagogechleaagreat", sum := "73e16119b25f3469f80d0748e78268c9dadbf9180d6608ed9bd36bf8e9107286", func := "talweg/talweglaw20.FaceVertex", spec := "faceVertex", unfollowed := true, recurses := true, plainKeys := false, apart := false }
def FaceVertexSaid : Prop := faceVertexRow.holds Tryz.pinned (OpenSpec.ofChange faceVertexSpec)

/-- ITS FALSE NEIGHBOUR: 'it returns false'. Refute it at one input. -/
def faceVertexWrong : ChangeSpec := { name := "faceVertex", fn := fun _ => fun
  | [d1, d2, d3, d4, d5, d6] => { results := [.lit (.bool false)], args := [d1, d2, d3, d4, d5, d6] }
  | _ => none }
def FaceVertexWrongFalsely : Prop := faceVertexRow.holds Tryz.pinned (OpenSpec.ofChange faceVertexWrong)

/-- 'talweglaw21.StepsExpand': WHATEVER THE INPUT: true; the input reads as it did. -/
def stepsExpandSpec : ChangeSpec := { name := "stepsExpand", fn := fun _ => fun
  | [d1, d2, d3, d4, d5, d6] => { results := [.lit (.bool true)], args := [d1, d2, d3, d4, d5, d6] }
  | _ => none }
def stepsExpandRow : OpenClaim := { program := "ytjboagogechleaagreat", sum := "73e16119b25f3469f80d0748e78268c9dadbf9180d6608ed9bd36bf8e9107286", func := "talweg/talweglaw21.StepsExpand", spec := "stepsExpand", inPlace := ["slices.overlaps[talweg/api.Edge]"], unfollowed := true, recurses := true, plainKeys := false, apart := false }
def StepsExpandSaid : Prop := stepsExpandRow.holds Tryz.pinned (OpenSpec.ofChange stepsExpandSpec)

/-- ITS FALSE NEIGHBOUR: 'it returns false'. Refute it at one input. -/
def stepsExpandWrong : ChangeSpec := { name := "stepsExpand", fn := fun _ => fun
  | [d1, d2, d3, d4, d5, d6] => { results := [.lit (.bool false)], args := [d1, d2, d3, d4, d5, d6] }
  | _ => none }
def StepsExpandWrongFalsely : Prop := stepsExpandRow.holds Tryz.pinned (OpenSpec.ofChange stepsExpandWrong)

/-- 'talweglaw21.StepsRun': WHATEVER THE INPUT: true; the input reads as it did. -/
def stepsRunSpec : ChangeSpec := { name := "stepsRun", fn := fun _ => fun
  | [d1, d2, d3, d4, d5, d6] => { results := [.lit (.bool true)], args := [d1, d2, d3, d4, d5, d6] }
  | _ => none }
def stepsRunRow : OpenClaim := { program := "ytjboagogechleaagreat", sum := "73e16119b25f3469f80d0748e78268c9dadbf9180d6608ed9bd36bf8e9107286", func := "talweg/talweglaw21.StepsRun", spec := "stepsRun", inPlace := ["slices.overlaps[talweg/api.Edge]"], unfollowed := true, recurses := true, plainKeys := false, apart := false }
def StepsRunSaid : Prop := stepsRunRow.holds Tryz.pinned (OpenSpec.ofChange stepsRunSpec)

/-- ITS FALSE NEIGHBOUR: 'it returns false'. Refute it at one input. -/
def stepsRunWrong : ChangeSpec := { name := "stepsRun", fn := fun _ => fun
  | [d1, d2, d3, d4, d5, d6] => { results := [.lit (.bool false)], args := [d1, d2, d3, d4, d5, d6] }
  | _ => none }
def StepsRunWrongFalsely : Prop := stepsRunRow.holds Tryz.pinned (OpenSpec.ofChange stepsRunWrong)

/-- 'talweglaw21.StepsWhole': WHATEVER THE INPUT: true; the input reads as it did. -/
def stepsWholeSpec : ChangeSpec := { name := "stepsWhole", fn := fun _ => fun
  | [d1, d2, d3, d4, d5, d6] => { results := [.lit (.bool true)], args := [d1, d2, d3, d4, d5, d6] }
  | _ => none }
def stepsWholeRow : OpenClaim := { program := "ytjboagogechleaagreat", sum := "73e16119b25f3469f80d0748e78268c9dadbf9180d6608ed9bd36bf8e9107286", func := "talweg/talweglaw21.StepsWhole", spec := "stepsWhole", inPlace := ["slices.overlaps[talweg/api.Edge]"], unfollowed := true, recurses := true, plainKeys := false, apart := false }
def StepsWholeSaid : Prop := stepsWholeRow.holds Tryz.pinned (OpenSpec.ofChange stepsWholeSpec)

/-- ITS FALSE NEIGHBOUR: 'it returns false'. Refute it at one input. -/
def stepsWholeWrong : ChangeSpec := { name := "stepsWhole", fn := fun _ => fun
  | [d1, d2, d3, d4, d5, d6] => { results := [.lit (.bool false)], args := [d1, d2, d3, d4, d5, d6] }
  | _ => none }
def StepsWholeWrongFalsely : Prop := stepsWholeRow.holds Tryz.pinned (OpenSpec.ofChange stepsWholeWrong)

/-- 'talweglaw21.StepsPaths': WHATEVER THE INPUT: true; the input reads as it did. -/
def stepsPathsSpec : ChangeSpec := { name := "stepsPaths", fn := fun _ => fun
  | [d1, d2, d3, d4, d5, d6, d7] => { results := [.lit (.bool true)], args := [d1, d2, d3, d4, d5, d6, d7] }
  | _ => none }
def stepsPathsRow : OpenClaim := { program := "ytjboagogechleaagreat", sum := "73e16119b25f3469f80d0748e78268c9dadbf9180d6608ed9bd36bf8e9107286", func := "talweg/talweglaw21.StepsPaths", spec := "stepsPaths", inPlace := ["slices.overlaps[talweg/api.Edge]"], unfollowed := true, recurses := true, plainKeys := false, apart := false }
def StepsPathsSaid : Prop := stepsPathsRow.holds Tryz.pinned (OpenSpec.ofChange stepsPathsSpec)

/-- ITS FALSE NEIGHBOUR: 'it returns false'. Refute it at one input. -/
def stepsPathsWrong : ChangeSpec := { name := "stepsPaths", fn := fun _ => fun
  | [d1, d2, d3, d4, d5, d6, d7] => { results := [.lit (.bool false)], args := [d1, d2, d3, d4, d5, d6, d7] }
  | _ => none }
def StepsPathsWrongFalsely : Prop := stepsPathsRow.holds Tryz.pinned (OpenSpec.ofChange stepsPathsWrong)

/-- 'talweglaw21.StepsAgree': WHATEVER THE INPUT: true; the input reads as it did. -/
def stepsAgreeSpec : ChangeSpec := { name := "stepsAgree", fn := fun _ => fun
  | [d1, d2, d3, d4, d5] => { results := [.lit (.bool true)], args := [d1, d2, d3, d4, d5] }
  | _ => none }
def stepsAgreeRow : OpenClaim := { program := "ytjboagogechleaagreat", sum := "73e16119b25f3469f80d0748e78268c9dadbf9180d6608ed9bd36bf8e9107286", func := "talweg/talweglaw21.StepsAgree", spec := "stepsAgree", inPlace := ["slices.overlaps[talweg/api.Edge]"], unfollowed := true, recurses := true, plainKeys := false, apart := false }
def StepsAgreeSaid : Prop := stepsAgreeRow.holds Tryz.pinned (OpenSpec.ofChange stepsAgreeSpec)

/-- ITS FALSE NEIGHBOUR: 'it returns false'. Refute it at one input. -/
def stepsAgreeWrong : ChangeSpec := { name := "stepsAgree", fn := fun _ => fun
  | [d1, d2, d3, d4, d5] => { results := [.lit (.bool false)], args := [d1, d2, d3, d4, d5] }
  | _ => none }
def StepsAgreeWrongFalsely : Prop := stepsAgreeRow.holds Tryz.pinned (OpenSpec.ofChange stepsAgreeWrong)

/- THE SECOND FORM. 'bulk': how many values and letters a reading holds, each counted each time it is reached (what is shared counts as often as it is met; a slice's spare places count too). A statement '..UptoSaid' is the law's where the arguments, and the package variables that the reading takes, are together of bulk at most 1048576: NARROWER than '..Said'. Prove '..Said' where nothing that the law and all that it calls make is longer than what came in: it says more and counts as full. Else prove '..UptoSaid'. A law counts once. -/
mutual
def uptoBulk {H : Type} : DataW H → Nat
  | .lit (.string bytes) => bytes.length + 1
  | .lit _ => 1
  | .nil => 1
  | .ptr d => uptoBulk d + 1
  | .slice elems spare => uptoBulkAll elems + uptoBulkAll spare + 1
  | .agg parts => uptoBulkAll parts + 1
  | .iface _ d => uptoBulk d + 1
  | .map entries => uptoBulkEntries entries + 1
  | .held _ => 1
def uptoBulkAll {H : Type} : List (DataW H) → Nat
  | [] => 0
  | d :: r => uptoBulk d + uptoBulkAll r
def uptoBulkEntries {H : Type} : List (Lit × DataW H) → Nat
  | [] => 0
  | x :: r => uptoBulkEntry x + uptoBulkEntries r
def uptoBulkEntry {H : Type} : Lit × DataW H → Nat
  | (.string bytes, d) => bytes.length + uptoBulk d + 1
  | (_, d) => uptoBulk d + 1
 end
def uptoSmall : (H : Type) → List (DataW H) → Bool := fun _ ds => decide (uptoBulkAll ds ≤ 1048576)
def OpenSpec.upto (s : _root_.Go.ChangeSpec) : _root_.Go.OpenSpec := { _root_.Go.OpenSpec.ofChange s with cond := some uptoSmall }

/-- 'talweglaw20.FaceGoes', WHERE WHAT IT READS IS OF BULK AT MOST 1048576: true; the input reads as it did. -/
def faceGoesUptoRow : OpenClaim := { program := "ytjboagogechleaagreat", sum := "73e16119b25f3469f80d0748e78268c9dadbf9180d6608ed9bd36bf8e9107286", func := "talweg/talweglaw20.FaceGoes", spec := "faceGoes", unfollowed := true, recurses := true, plainKeys := false, apart := false, narrowed := true }
def FaceGoesUptoSaid : Prop := faceGoesUptoRow.holds Tryz.pinned (OpenSpec.upto faceGoesSpec)

/-- 'talweglaw20.FacePlays', WHERE WHAT IT READS IS OF BULK AT MOST 1048576: true; the input reads as it did. -/
def facePlaysUptoRow : OpenClaim := { program := "ytjboagogechleaagreat", sum := "73e16119b25f3469f80d0748e78268c9dadbf9180d6608ed9bd36bf8e9107286", func := "talweg/talweglaw20.FacePlays", spec := "facePlays", unfollowed := true, recurses := true, plainKeys := false, apart := false, narrowed := true }
def FacePlaysUptoSaid : Prop := facePlaysUptoRow.holds Tryz.pinned (OpenSpec.upto facePlaysSpec)

/-- 'talweglaw20.FaceEnds', WHERE WHAT IT READS IS OF BULK AT MOST 1048576: true; the input reads as it did. -/
def faceEndsUptoRow : OpenClaim := { program := "ytjboagogechleaagreat", sum := "73e16119b25f3469f80d0748e78268c9dadbf9180d6608ed9bd36bf8e9107286", func := "talweg/talweglaw20.FaceEnds", spec := "faceEnds", unfollowed := true, recurses := true, plainKeys := false, apart := false, narrowed := true }
def FaceEndsUptoSaid : Prop := faceEndsUptoRow.holds Tryz.pinned (OpenSpec.upto faceEndsSpec)

/-- 'talweglaw20.FaceTells', WHERE WHAT IT READS IS OF BULK AT MOST 1048576: true; the input reads as it did. -/
def faceTellsUptoRow : OpenClaim := { program := "ytjboagogechleaagreat", sum := "73e16119b25f3469f80d0748e78268c9dadbf9180d6608ed9bd36bf8e9107286", func := "talweg/talweglaw20.FaceTells", spec := "faceTells", unfollowed := true, recurses := true, plainKeys := false, apart := false, narrowed := true }
def FaceTellsUptoSaid : Prop := faceTellsUptoRow.holds Tryz.pinned (OpenSpec.upto faceTellsSpec)

/-- 'talweglaw20.FaceKeeps', WHERE WHAT IT READS IS OF BULK AT MOST 1048576: true; the input reads as it did. -/
def faceKeepsUptoRow : OpenClaim := { program := "ytjboagogechleaagreat", sum := "73e16119b25f3469f80d0748e78268c9dadbf9180d6608ed9bd36bf8e9107286", func := "talweg/talweglaw20.FaceKeeps", spec := "faceKeeps", unfollowed := true, recurses := true, plainKeys := false, apart := false, narrowed := true }
def FaceKeepsUptoSaid : Prop := faceKeepsUptoRow.holds Tryz.pinned (OpenSpec.upto faceKeepsSpec)

/-- 'talweglaw20.FaceOf', WHERE WHAT IT READS IS OF BULK AT MOST 1048576: true; the input reads as it did. -/
def faceOfUptoRow : OpenClaim := { program := "ytjboagogechleaagreat", sum := "73e16119b25f3469f80d0748e78268c9dadbf9180d6608ed9bd36bf8e9107286", func := "talweg/talweglaw20.FaceOf", spec := "faceOf", unfollowed := true, recurses := true, plainKeys := false, apart := false, narrowed := true }
def FaceOfUptoSaid : Prop := faceOfUptoRow.holds Tryz.pinned (OpenSpec.upto faceOfSpec)

/-- 'talweglaw20.FaceVertex', WHERE WHAT IT READS IS OF BULK AT MOST 1048576: true; the input reads as it did. -/
def faceVertexUptoRow : OpenClaim := { program := "ytjboagogechleaagreat", sum := "73e16119b25f3469f80d0748e78268c9dadbf9180d6608ed9bd36bf8e9107286", func := "talweg/talweglaw20.FaceVertex", spec := "faceVertex", unfollowed := true, recurses := true, plainKeys := false, apart := false, narrowed := true }
def FaceVertexUptoSaid : Prop := faceVertexUptoRow.holds Tryz.pinned (OpenSpec.upto faceVertexSpec)

/-- 'talweglaw21.StepsExpand', WHERE WHAT IT READS IS OF BULK AT MOST 1048576: true; the input reads as it did. -/
def stepsExpandUptoRow : OpenClaim := { program := "ytjboagogechleaagreat", sum := "73e16119b25f3469f80d0748e78268c9dadbf9180d6608ed9bd36bf8e9107286", func := "talweg/talweglaw21.StepsExpand", spec := "stepsExpand", inPlace := ["slices.overlaps[talweg/api.Edge]"], unfollowed := true, recurses := true, plainKeys := false, apart := false, narrowed := true }
def StepsExpandUptoSaid : Prop := stepsExpandUptoRow.holds Tryz.pinned (OpenSpec.upto stepsExpandSpec)

/-- 'talweglaw21.StepsRun', WHERE WHAT IT READS IS OF BULK AT MOST 1048576: true; the input reads as it did. -/
def stepsRunUptoRow : OpenClaim := { program := "ytjboagogechleaagreat", sum := "73e16119b25f3469f80d0748e78268c9dadbf9180d6608ed9bd36bf8e9107286", func := "talweg/talweglaw21.StepsRun", spec := "stepsRun", inPlace := ["slices.overlaps[talweg/api.Edge]"], unfollowed := true, recurses := true, plainKeys := false, apart := false, narrowed := true }
def StepsRunUptoSaid : Prop := stepsRunUptoRow.holds Tryz.pinned (OpenSpec.upto stepsRunSpec)

/-- 'talweglaw21.StepsWhole', WHERE WHAT IT READS IS OF BULK AT MOST 1048576: true; the input reads as it did. -/
def stepsWholeUptoRow : OpenClaim := { program := "ytjboagogechleaagreat", sum := "73e16119b25f3469f80d0748e78268c9dadbf9180d6608ed9bd36bf8e9107286", func := "talweg/talweglaw21.StepsWhole", spec := "stepsWhole", inPlace := ["slices.overlaps[talweg/api.Edge]"], unfollowed := true, recurses := true, plainKeys := false, apart := false, narrowed := true }
def StepsWholeUptoSaid : Prop := stepsWholeUptoRow.holds Tryz.pinned (OpenSpec.upto stepsWholeSpec)

/-- 'talweglaw21.StepsPaths', WHERE WHAT IT READS IS OF BULK AT MOST 1048576: true; the input reads as it did. -/
def stepsPathsUptoRow : OpenClaim := { program := "ytjboagogechleaagreat", sum := "73e16119b25f3469f80d0748e78268c9dadbf9180d6608ed9bd36bf8e9107286", func := "talweg/talweglaw21.StepsPaths", spec := "stepsPaths", inPlace := ["slices.overlaps[talweg/api.Edge]"], unfollowed := true, recurses := true, plainKeys := false, apart := false, narrowed := true }
def StepsPathsUptoSaid : Prop := stepsPathsUptoRow.holds Tryz.pinned (OpenSpec.upto stepsPathsSpec)

/-- 'talweglaw21.StepsAgree', WHERE WHAT IT READS IS OF BULK AT MOST 1048576: true; the input reads as it did. -/
def stepsAgreeUptoRow : OpenClaim := { program := "ytjboagogechleaagreat", sum := "73e16119b25f3469f80d0748e78268c9dadbf9180d6608ed9bd36bf8e9107286", func := "talweg/talweglaw21.StepsAgree", spec := "stepsAgree", inPlace := ["slices.overlaps[talweg/api.Edge]"], unfollowed := true, recurses := true, plainKeys := false, apart := false, narrowed := true }
def StepsAgreeUptoSaid : Prop := stepsAgreeUptoRow.holds Tryz.pinned (OpenSpec.upto stepsAgreeSpec)

end Rows
end Go.Proofs.YtjboagogechleaaGreat
