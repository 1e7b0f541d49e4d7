/-
  No cell of these rows narrows 'for every input' (looked for: loops, veiled, ifaces, maps, wideKeys, modest, calm, conditions, laid).
  DERIVED. THE GIVEN ROWS OF THIS SEAT. 9 by the template 'for every input the law returns true; each argument reads behind the call as it read before'; 0 by the template 'total and deterministic' (their statements: YtldnlbfchkdoiaaTotals.lean).
  GIVEN WITH THE SEED: the statements are not yours to turn. If you find one false, say at which input.
  Laid BY PROGRAM, IN A SANDBOX (cutbox-rows.mjs): the forced cells as the released guide's own fill.sh prints them over the translation b54dc8aef00c5ff3… (all of the seat's roots in one cut). By AI agents, Wed Nov 11 2026. No macro, syntax, notation, axiom, sorry.
-/
import Derived.Test.YtldnlbfchkdoiaaChecked
import GoSem.Claim
import GoSem.ClaimJoined
import GoSem.ClaimMapViews
import Derived.JoinedTies
import Derived.KernelRfl
namespace Go.Proofs.Ytldnlbfchkdoiaa
/- THE CELL 'sum', in the pinned program and in every row, IS THE sha256 OF THE DUMP (.gsa) THAT YtldnlbfchkdoiaaProg.lean LOADS. Nothing in Lean hashes anything: it is a label: what it is worth is what the hold of that sum in a sandbox is worth. -/
noncomputable def Try.pinned : Pinned := { name := "ytldnlbfchkdoiaa", sum := "b54dc8aef00c5ff331b7d61ec9c6dec8c4f8ed8143f1a074f9315b8377f8b51a", checked := Try.checked }
namespace Rows
def none {H : Type} : Left H := { results := [], args := [] }

/-- 'gangsawlaw07.PlaneValues': WHATEVER THE INPUT: true; the input reads as it did. -/
def planeValuesSpec : ChangeSpec := { name := "planeValues", fn := fun _ => fun
  | [d1, d2] => { results := [.lit (.bool true)], args := [d1, d2] }
  | _ => none }
def planeValuesRow : OpenClaim := { program := "ytldnlbfchkdoiaa", sum := "b54dc8aef00c5ff331b7d61ec9c6dec8c4f8ed8143f1a074f9315b8377f8b51a", func := "gangsaw/gangsawlaw07.PlaneValues", spec := "planeValues", apart := false }
def PlaneValuesSaid : Prop := planeValuesRow.holds Try.pinned (OpenSpec.ofChange planeValuesSpec)

/-- ITS FALSE NEIGHBOUR: 'it returns false'. Refute it at one input. -/
def planeValuesWrong : ChangeSpec := { name := "planeValues", fn := fun _ => fun
  | [d1, d2] => { results := [.lit (.bool false)], args := [d1, d2] }
  | _ => none }
def PlaneValuesWrongFalsely : Prop := planeValuesRow.holds Try.pinned (OpenSpec.ofChange planeValuesWrong)

/-- 'gangsawlaw07.PlaneBoxes': WHATEVER THE INPUT: true; the input reads as it did. -/
def planeBoxesSpec : ChangeSpec := { name := "planeBoxes", fn := fun _ => fun
  | [d1, d2] => { results := [.lit (.bool true)], args := [d1, d2] }
  | _ => none }
def planeBoxesRow : OpenClaim := { program := "ytldnlbfchkdoiaa", sum := "b54dc8aef00c5ff331b7d61ec9c6dec8c4f8ed8143f1a074f9315b8377f8b51a", func := "gangsaw/gangsawlaw07.PlaneBoxes", spec := "planeBoxes", apart := false }
def PlaneBoxesSaid : Prop := planeBoxesRow.holds Try.pinned (OpenSpec.ofChange planeBoxesSpec)

/-- ITS FALSE NEIGHBOUR: 'it returns false'. Refute it at one input. -/
def planeBoxesWrong : ChangeSpec := { name := "planeBoxes", fn := fun _ => fun
  | [d1, d2] => { results := [.lit (.bool false)], args := [d1, d2] }
  | _ => none }
def PlaneBoxesWrongFalsely : Prop := planeBoxesRow.holds Try.pinned (OpenSpec.ofChange planeBoxesWrong)

/-- 'gangsawlaw07.PlaneHulls': WHATEVER THE INPUT: true; the input reads as it did. -/
def planeHullsSpec : ChangeSpec := { name := "planeHulls", fn := fun _ => fun
  | [d1, d2] => { results := [.lit (.bool true)], args := [d1, d2] }
  | _ => none }
def planeHullsRow : OpenClaim := { program := "ytldnlbfchkdoiaa", sum := "b54dc8aef00c5ff331b7d61ec9c6dec8c4f8ed8143f1a074f9315b8377f8b51a", func := "gangsaw/gangsawlaw07.PlaneHulls", spec := "planeHulls", apart := false }
def PlaneHullsSaid : Prop := planeHullsRow.holds Try.pinned (OpenSpec.ofChange planeHullsSpec)

/-- ITS FALSE NEIGHBOUR: 'it returns false'. Refute it at one input. -/
def planeHullsWrong : ChangeSpec := { name := "planeHulls", fn := fun _ => fun
  | [d1, d2] => { results := [.lit (.bool false)], args := [d1, d2] }
  | _ => none }
def PlaneHullsWrongFalsely : Prop := planeHullsRow.holds Try.pinned (OpenSpec.ofChange planeHullsWrong)

/-- 'gangsawlaw07.PlaneDepths': WHATEVER THE INPUT: true; the input reads as it did. -/
def planeDepthsSpec : ChangeSpec := { name := "planeDepths", fn := fun _ => fun
  | [d1, d2, d3, d4] => { results := [.lit (.bool true)], args := [d1, d2, d3, d4] }
  | _ => none }
def planeDepthsRow : OpenClaim := { program := "ytldnlbfchkdoiaa", sum := "b54dc8aef00c5ff331b7d61ec9c6dec8c4f8ed8143f1a074f9315b8377f8b51a", func := "gangsaw/gangsawlaw07.PlaneDepths", spec := "planeDepths", apart := false }
def PlaneDepthsSaid : Prop := planeDepthsRow.holds Try.pinned (OpenSpec.ofChange planeDepthsSpec)

/-- ITS FALSE NEIGHBOUR: 'it returns false'. Refute it at one input. -/
def planeDepthsWrong : ChangeSpec := { name := "planeDepths", fn := fun _ => fun
  | [d1, d2, d3, d4] => { results := [.lit (.bool false)], args := [d1, d2, d3, d4] }
  | _ => none }
def PlaneDepthsWrongFalsely : Prop := planeDepthsRow.holds Try.pinned (OpenSpec.ofChange planeDepthsWrong)

/-- 'gangsawlaw07.PlaneCorners': WHATEVER THE INPUT: true; the input reads as it did. -/
def planeCornersSpec : ChangeSpec := { name := "planeCorners", fn := fun _ => fun
  | [d1, d2, d3] => { results := [.lit (.bool true)], args := [d1, d2, d3] }
  | _ => none }
def planeCornersRow : OpenClaim := { program := "ytldnlbfchkdoiaa", sum := "b54dc8aef00c5ff331b7d61ec9c6dec8c4f8ed8143f1a074f9315b8377f8b51a", func := "gangsaw/gangsawlaw07.PlaneCorners", spec := "planeCorners", apart := false }
def PlaneCornersSaid : Prop := planeCornersRow.holds Try.pinned (OpenSpec.ofChange planeCornersSpec)

/-- ITS FALSE NEIGHBOUR: 'it returns false'. Refute it at one input. -/
def planeCornersWrong : ChangeSpec := { name := "planeCorners", fn := fun _ => fun
  | [d1, d2, d3] => { results := [.lit (.bool false)], args := [d1, d2, d3] }
  | _ => none }
def PlaneCornersWrongFalsely : Prop := planeCornersRow.holds Try.pinned (OpenSpec.ofChange planeCornersWrong)

/-- 'gangsawlaw07.PlaneCells': WHATEVER THE INPUT: true; the input reads as it did. -/
def planeCellsSpec : ChangeSpec := { name := "planeCells", fn := fun _ => fun
  | [d1, d2, d3] => { results := [.lit (.bool true)], args := [d1, d2, d3] }
  | _ => none }
def planeCellsRow : OpenClaim := { program := "ytldnlbfchkdoiaa", sum := "b54dc8aef00c5ff331b7d61ec9c6dec8c4f8ed8143f1a074f9315b8377f8b51a", func := "gangsaw/gangsawlaw07.PlaneCells", spec := "planeCells", apart := false }
def PlaneCellsSaid : Prop := planeCellsRow.holds Try.pinned (OpenSpec.ofChange planeCellsSpec)

/-- ITS FALSE NEIGHBOUR: 'it returns false'. Refute it at one input. -/
def planeCellsWrong : ChangeSpec := { name := "planeCells", fn := fun _ => fun
  | [d1, d2, d3] => { results := [.lit (.bool false)], args := [d1, d2, d3] }
  | _ => none }
def PlaneCellsWrongFalsely : Prop := planeCellsRow.holds Try.pinned (OpenSpec.ofChange planeCellsWrong)

/-- 'gangsawlaw07.PlaneMoves': WHATEVER THE INPUT: true; the input reads as it did. -/
def planeMovesSpec : ChangeSpec := { name := "planeMoves", fn := fun _ => fun
  | [d1, d2, d3, d4] => { results := [.lit (.bool true)], args := [d1, d2, d3, d4] }
  | _ => none }
def planeMovesRow : OpenClaim := { program := "ytldnlbfchkdoiaa", sum := "b54dc8aef00c5ff331b7d61ec9c6dec8c4f8ed8143f1a074f9315b8377f8b51a", func := "gangsaw/gangsawlaw07.PlaneMoves", spec := "planeMoves", apart := false }
def PlaneMovesSaid : Prop := planeMovesRow.holds Try.pinned (OpenSpec.ofChange planeMovesSpec)

/-- ITS FALSE NEIGHBOUR: 'it returns false'. Refute it at one input. -/
def planeMovesWrong : ChangeSpec := { name := "planeMoves", fn := fun _ => fun
  | [d1, d2, d3, d4] => { results := [.lit (.bool false)], args := [d1, d2, d3, d4] }
  | _ => none }
def PlaneMovesWrongFalsely : Prop := planeMovesRow.holds Try.pinned (OpenSpec.ofChange planeMovesWrong)

/-- 'gangsawlaw07.PlaneNormals': WHATEVER THE INPUT: true; the input reads as it did. -/
def planeNormalsSpec : ChangeSpec := { name := "planeNormals", fn := fun _ => fun
  | [d1, d2] => { results := [.lit (.bool true)], args := [d1, d2] }
  | _ => none }
def planeNormalsRow : OpenClaim := { program := "ytldnlbfchkdoiaa", sum := "b54dc8aef00c5ff331b7d61ec9c6dec8c4f8ed8143f1a074f9315b8377f8b51a", func := "gangsaw/gangsawlaw07.PlaneNormals", spec := "planeNormals", apart := false }
def PlaneNormalsSaid : Prop := planeNormalsRow.holds Try.pinned (OpenSpec.ofChange planeNormalsSpec)

/-- ITS FALSE NEIGHBOUR: 'it returns false'. Refute it at one input. -/
def planeNormalsWrong : ChangeSpec := { name := "planeNormals", fn := fun _ => fun
  | [d1, d2] => { results := [.lit (.bool false)], args := [d1, d2] }
  | _ => none }
def PlaneNormalsWrongFalsely : Prop := planeNormalsRow.holds Try.pinned (OpenSpec.ofChange planeNormalsWrong)

/-- 'gangsawlaw07.PlanePoints': WHATEVER THE INPUT: true; the input reads as it did. -/
def planePointsSpec : ChangeSpec := { name := "planePoints", fn := fun _ => fun
  | [d1, d2, d3] => { results := [.lit (.bool true)], args := [d1, d2, d3] }
  | _ => none }
def planePointsRow : OpenClaim := { program := "ytldnlbfchkdoiaa", sum := "b54dc8aef00c5ff331b7d61ec9c6dec8c4f8ed8143f1a074f9315b8377f8b51a", func := "gangsaw/gangsawlaw07.PlanePoints", spec := "planePoints", apart := false }
def PlanePointsSaid : Prop := planePointsRow.holds Try.pinned (OpenSpec.ofChange planePointsSpec)

/-- ITS FALSE NEIGHBOUR: 'it returns false'. Refute it at one input. -/
def planePointsWrong : ChangeSpec := { name := "planePoints", fn := fun _ => fun
  | [d1, d2, d3] => { results := [.lit (.bool false)], args := [d1, d2, d3] }
  | _ => none }
def PlanePointsWrongFalsely : Prop := planePointsRow.holds Try.pinned (OpenSpec.ofChange planePointsWrong)

/- THE SECOND FORM. 'bulk': how many values and letters a reading holds, each counted each time it is reached (what is shared counts as often as it is met; a slice's spare places count too). A statement '..UptoSaid' is the law's where the arguments, and the package variables that the reading takes, are together of bulk at most 1048576: NARROWER than '..Said'. Prove '..Said' where nothing that the law and all that it calls make is longer than what came in: it says more and counts as full. Else prove '..UptoSaid'. A law counts once. -/
mutual
def uptoBulk {H : Type} : DataW H → Nat
  | .lit (.string bytes) => bytes.length + 1
  | .lit _ => 1
  | .nil => 1
  | .ptr d => uptoBulk d + 1
  | .slice elems spare => uptoBulkAll elems + uptoBulkAll spare + 1
  | .agg parts => uptoBulkAll parts + 1
  | .iface _ d => uptoBulk d + 1
  | .map entries => uptoBulkEntries entries + 1
  | .held _ => 1
def uptoBulkAll {H : Type} : List (DataW H) → Nat
  | [] => 0
  | d :: r => uptoBulk d + uptoBulkAll r
def uptoBulkEntries {H : Type} : List (Lit × DataW H) → Nat
  | [] => 0
  | x :: r => uptoBulkEntry x + uptoBulkEntries r
def uptoBulkEntry {H : Type} : Lit × DataW H → Nat
  | (.string bytes, d) => bytes.length + uptoBulk d + 1
  | (_, d) => uptoBulk d + 1
 end
def uptoSmall : (H : Type) → List (DataW H) → Bool := fun _ ds => decide (uptoBulkAll ds ≤ 1048576)
def OpenSpec.upto (s : _root_.Go.ChangeSpec) : _root_.Go.OpenSpec := { _root_.Go.OpenSpec.ofChange s with cond := some uptoSmall }

/-- 'gangsawlaw07.PlaneValues', WHERE WHAT IT READS IS OF BULK AT MOST 1048576: true; the input reads as it did. -/
def planeValuesUptoRow : OpenClaim := { program := "ytldnlbfchkdoiaa", sum := "b54dc8aef00c5ff331b7d61ec9c6dec8c4f8ed8143f1a074f9315b8377f8b51a", func := "gangsaw/gangsawlaw07.PlaneValues", spec := "planeValues", apart := false, narrowed := true }
def PlaneValuesUptoSaid : Prop := planeValuesUptoRow.holds Try.pinned (OpenSpec.upto planeValuesSpec)

/-- 'gangsawlaw07.PlaneBoxes', WHERE WHAT IT READS IS OF BULK AT MOST 1048576: true; the input reads as it did. -/
def planeBoxesUptoRow : OpenClaim := { program := "ytldnlbfchkdoiaa", sum := "b54dc8aef00c5ff331b7d61ec9c6dec8c4f8ed8143f1a074f9315b8377f8b51a", func := "gangsaw/gangsawlaw07.PlaneBoxes", spec := "planeBoxes", apart := false, narrowed := true }
def PlaneBoxesUptoSaid : Prop := planeBoxesUptoRow.holds Try.pinned (OpenSpec.upto planeBoxesSpec)

/-- 'gangsawlaw07.PlaneHulls', WHERE WHAT IT READS IS OF BULK AT MOST 1048576: true; the input reads as it did. -/
def planeHullsUptoRow : OpenClaim := { program := "ytldnlbfchkdoiaa", sum := "b54dc8aef00c5ff331b7d61ec9c6dec8c4f8ed8143f1a074f9315b8377f8b51a", func := "gangsaw/gangsawlaw07.PlaneHulls", spec := "planeHulls", apart := false, narrowed := true }
def PlaneHullsUptoSaid : Prop := planeHullsUptoRow.holds Try.pinned (OpenSpec.upto planeHullsSpec)

/-- 'gangsawlaw07.PlaneDepths', WHERE WHAT IT READS IS OF BULK AT MOST 1048576: true; the input reads as it did. -/
def planeDepthsUptoRow : OpenClaim := { program := "ytldnlbfchkdoiaa", sum := "b54dc8aef00c5ff331b7d61ec9c6dec8c4f8ed8143f1a074f9315b8377f8b51a", func := "gangsaw/gangsawlaw07.PlaneDepths", spec := "planeDepths", apart := false, narrowed := true }
def PlaneDepthsUptoSaid : Prop := planeDepthsUptoRow.holds Try.pinned (OpenSpec.upto planeDepthsSpec)

/-- 'gangsawlaw07.PlaneCorners', WHERE WHAT IT READS IS OF BULK AT MOST 1048576: true; the input reads as it did. -/
def planeCornersUptoRow : OpenClaim := { program := "ytldnlbfchkdoiaa", sum := "b54dc8aef00c5ff331b7d61ec9c6dec8c4f8ed8143f1a074f9315b8377f8b51a", func := "gangsaw/gangsawlaw07.PlaneCorners", spec := "planeCorners", apart := false, narrowed := true }
def PlaneCornersUptoSaid : Prop := planeCornersUptoRow.holds Try.pinned (OpenSpec.upto planeCornersSpec)

/-- 'gangsawlaw07.PlaneCells', WHERE WHAT IT READS IS OF BULK AT MOST 1048576: true; the input reads as it did. -/
def planeCellsUptoRow : OpenClaim := { program := "ytldnlbfchkdoiaa", sum := "b54dc8aef00c5ff331b7d61ec9c6dec8c4f8ed8143f1a074f9315b8377f8b51a", func := "gangsaw/gangsawlaw07.PlaneCells", spec := "planeCells", apart := false, narrowed := true }
def PlaneCellsUptoSaid : Prop := planeCellsUptoRow.holds Try.pinned (OpenSpec.upto planeCellsSpec)

/-- 'gangsawlaw07.PlaneMoves', WHERE WHAT IT READS IS OF BULK AT MOST 1048576: true; the input reads as it did. -/
def planeMovesUptoRow : OpenClaim := { program := "ytldnlbfchkdoiaa", sum := "b54dc8aef00c5ff331b7d61ec9c6dec8c4f8ed8143f1a074f9315b8377f8b51a", func := "gangsaw/gangsawlaw07.PlaneMoves", spec := "planeMoves", apart := false, narrowed := true }
def PlaneMovesUptoSaid : Prop := planeMovesUptoRow.holds Try.pinned (OpenSpec.upto planeMovesSpec)

/-- 'gangsawlaw07.PlaneNormals', WHERE WHAT IT READS IS OF BULK AT MOST 1048576: true; the input reads as it did. -/
def planeNormalsUptoRow : OpenClaim := { program := "ytldnlbfchkdoiaa", sum := "b54dc8aef00c5ff331b7d61ec9c6dec8c4f8ed8143f1a074f9315b8377f8b51a", func := "gangsaw/gangsawlaw07.PlaneNormals", spec := "planeNormals", apart := false, narrowed := true }
def PlaneNormalsUptoSaid : Prop := planeNormalsUptoRow.holds Try.pinned (OpenSpec.upto planeNormalsSpec)

/-- 'gangsawlaw07.PlanePoints', WHERE WHAT IT READS IS OF BULK AT MOST 1048576: true; the input reads as it did. -/
def planePointsUptoRow : OpenClaim := { program := "ytldnlbfchkdoiaa", sum := "b54dc8aef00c5ff331b7d61ec9c6dec8c4f8ed8143f1a074f9315b8377f8b51a", func := "gangsaw/gangsawlaw07.PlanePoints", spec := "planePoints", apart := false, narrowed := true }
def PlanePointsUptoSaid : Prop := planePointsUptoRow.holds Try.pinned (OpenSpec.upto planePointsSpec)

end Rows
end Go.Proofs.Ytldnlbfchkdoiaa
