/-
  No cell of these rows narrows 'for every input' (looked for: loops, veiled, ifaces, maps, wideKeys, modest, calm, conditions, laid).
  DERIVED. THE GIVEN ROWS OF THIS SEAT. 9 by the template 'for every input the law returns true; each argument reads behind the call as it read before'; 0 by the template 'total and deterministic' (their statements: YtoffcodhcbgbdaaTotals.lean).
  GIVEN WITH THE SEED: the statements are not yours to turn. If you find one false, say at which input.
  Laid BY PROGRAM, IN A SANDBOX (cutbox-rows.mjs): the forced cells as the released guide's own fill.sh prints them over the translation b6e9215b7b461a9c… (all of the seat's roots in one cut). By AI agents, Wed Nov 11 2026. No macro, syntax, notation, axiom, sorry.
-/
import Derived.Test.YtoffcodhcbgbdaaChecked
import GoSem.Claim
import GoSem.ClaimJoined
import GoSem.ClaimMapViews
import Derived.JoinedTies
import Derived.KernelRfl
namespace Go.Proofs.Ytoffcodhcbgbdaa
/- THE CELL 'sum', in the pinned program and in every row, IS THE sha256 OF THE DUMP (.gsa) THAT YtoffcodhcbgbdaaProg.lean LOADS. Nothing in Lean hashes anything: it is a label: what it is worth is what the hold of that sum in a sandbox is worth. -/
noncomputable def Try.pinned : Pinned := { name := "ytoffcodhcbgbdaa", sum := "b6e9215b7b461a9c47ea6750202458e615b2158d5b28f82055fec6ef1b5b91fc", checked := Try.checked }
namespace Rows
def none {H : Type} : Left H := { results := [], args := [] }

/-- 'gangsawlaw03.VectorPrimitives': WHATEVER THE INPUT: true; the input reads as it did. -/
def vectorPrimitivesSpec : ChangeSpec := { name := "vectorPrimitives", fn := fun _ => fun
  | [d] => { results := [.lit (.bool true)], args := [d] }
  | _ => none }
def vectorPrimitivesRow : OpenClaim := { program := "ytoffcodhcbgbdaa", sum := "b6e9215b7b461a9c47ea6750202458e615b2158d5b28f82055fec6ef1b5b91fc", func := "gangsaw/gangsawlaw03.VectorPrimitives", spec := "vectorPrimitives", apart := false }
def VectorPrimitivesSaid : Prop := vectorPrimitivesRow.holds Try.pinned (OpenSpec.ofChange vectorPrimitivesSpec)

/-- ITS FALSE NEIGHBOUR: 'it returns false'. Refute it at one input. -/
def vectorPrimitivesWrong : ChangeSpec := { name := "vectorPrimitives", fn := fun _ => fun
  | [d] => { results := [.lit (.bool false)], args := [d] }
  | _ => none }
def VectorPrimitivesWrongFalsely : Prop := vectorPrimitivesRow.holds Try.pinned (OpenSpec.ofChange vectorPrimitivesWrong)

/-- 'gangsawlaw03.VectorTurns': WHATEVER THE INPUT: true; the input reads as it did. -/
def vectorTurnsSpec : ChangeSpec := { name := "vectorTurns", fn := fun _ => fun
  | [d1, d2, d3] => { results := [.lit (.bool true)], args := [d1, d2, d3] }
  | _ => none }
def vectorTurnsRow : OpenClaim := { program := "ytoffcodhcbgbdaa", sum := "b6e9215b7b461a9c47ea6750202458e615b2158d5b28f82055fec6ef1b5b91fc", func := "gangsaw/gangsawlaw03.VectorTurns", spec := "vectorTurns", apart := false }
def VectorTurnsSaid : Prop := vectorTurnsRow.holds Try.pinned (OpenSpec.ofChange vectorTurnsSpec)

/-- ITS FALSE NEIGHBOUR: 'it returns false'. Refute it at one input. -/
def vectorTurnsWrong : ChangeSpec := { name := "vectorTurns", fn := fun _ => fun
  | [d1, d2, d3] => { results := [.lit (.bool false)], args := [d1, d2, d3] }
  | _ => none }
def VectorTurnsWrongFalsely : Prop := vectorTurnsRow.holds Try.pinned (OpenSpec.ofChange vectorTurnsWrong)

/-- 'gangsawlaw03.VectorMeets': WHATEVER THE INPUT: true; the input reads as it did. -/
def vectorMeetsSpec : ChangeSpec := { name := "vectorMeets", fn := fun _ => fun
  | [d1, d2, d3, d4] => { results := [.lit (.bool true)], args := [d1, d2, d3, d4] }
  | _ => none }
def vectorMeetsRow : OpenClaim := { program := "ytoffcodhcbgbdaa", sum := "b6e9215b7b461a9c47ea6750202458e615b2158d5b28f82055fec6ef1b5b91fc", func := "gangsaw/gangsawlaw03.VectorMeets", spec := "vectorMeets", apart := false }
def VectorMeetsSaid : Prop := vectorMeetsRow.holds Try.pinned (OpenSpec.ofChange vectorMeetsSpec)

/-- ITS FALSE NEIGHBOUR: 'it returns false'. Refute it at one input. -/
def vectorMeetsWrong : ChangeSpec := { name := "vectorMeets", fn := fun _ => fun
  | [d1, d2, d3, d4] => { results := [.lit (.bool false)], args := [d1, d2, d3, d4] }
  | _ => none }
def VectorMeetsWrongFalsely : Prop := vectorMeetsRow.holds Try.pinned (OpenSpec.ofChange vectorMeetsWrong)

/-- 'gangsawlaw03.VectorOrder': WHATEVER THE INPUT: true; the input reads as it did. -/
def vectorOrderSpec : ChangeSpec := { name := "vectorOrder", fn := fun _ => fun
  | [d1, d2, d3] => { results := [.lit (.bool true)], args := [d1, d2, d3] }
  | _ => none }
def vectorOrderRow : OpenClaim := { program := "ytoffcodhcbgbdaa", sum := "b6e9215b7b461a9c47ea6750202458e615b2158d5b28f82055fec6ef1b5b91fc", func := "gangsaw/gangsawlaw03.VectorOrder", spec := "vectorOrder", apart := false }
def VectorOrderSaid : Prop := vectorOrderRow.holds Try.pinned (OpenSpec.ofChange vectorOrderSpec)

/-- ITS FALSE NEIGHBOUR: 'it returns false'. Refute it at one input. -/
def vectorOrderWrong : ChangeSpec := { name := "vectorOrder", fn := fun _ => fun
  | [d1, d2, d3] => { results := [.lit (.bool false)], args := [d1, d2, d3] }
  | _ => none }
def VectorOrderWrongFalsely : Prop := vectorOrderRow.holds Try.pinned (OpenSpec.ofChange vectorOrderWrong)

/-- 'gangsawlaw03.VectorReduced': WHATEVER THE INPUT: true; the input reads as it did. -/
def vectorReducedSpec : ChangeSpec := { name := "vectorReduced", fn := fun _ => fun
  | [d] => { results := [.lit (.bool true)], args := [d] }
  | _ => none }
def vectorReducedRow : OpenClaim := { program := "ytoffcodhcbgbdaa", sum := "b6e9215b7b461a9c47ea6750202458e615b2158d5b28f82055fec6ef1b5b91fc", func := "gangsaw/gangsawlaw03.VectorReduced", spec := "vectorReduced", apart := false }
def VectorReducedSaid : Prop := vectorReducedRow.holds Try.pinned (OpenSpec.ofChange vectorReducedSpec)

/-- ITS FALSE NEIGHBOUR: 'it returns false'. Refute it at one input. -/
def vectorReducedWrong : ChangeSpec := { name := "vectorReduced", fn := fun _ => fun
  | [d] => { results := [.lit (.bool false)], args := [d] }
  | _ => none }
def VectorReducedWrongFalsely : Prop := vectorReducedRow.holds Try.pinned (OpenSpec.ofChange vectorReducedWrong)

/-- 'gangsawlaw03.VectorSegments': WHATEVER THE INPUT: true; the input reads as it did. -/
def vectorSegmentsSpec : ChangeSpec := { name := "vectorSegments", fn := fun _ => fun
  | [d1, d2, d3, d4] => { results := [.lit (.bool true)], args := [d1, d2, d3, d4] }
  | _ => none }
def vectorSegmentsRow : OpenClaim := { program := "ytoffcodhcbgbdaa", sum := "b6e9215b7b461a9c47ea6750202458e615b2158d5b28f82055fec6ef1b5b91fc", func := "gangsaw/gangsawlaw03.VectorSegments", spec := "vectorSegments", apart := false }
def VectorSegmentsSaid : Prop := vectorSegmentsRow.holds Try.pinned (OpenSpec.ofChange vectorSegmentsSpec)

/-- ITS FALSE NEIGHBOUR: 'it returns false'. Refute it at one input. -/
def vectorSegmentsWrong : ChangeSpec := { name := "vectorSegments", fn := fun _ => fun
  | [d1, d2, d3, d4] => { results := [.lit (.bool false)], args := [d1, d2, d3, d4] }
  | _ => none }
def VectorSegmentsWrongFalsely : Prop := vectorSegmentsRow.holds Try.pinned (OpenSpec.ofChange vectorSegmentsWrong)

/-- 'gangsawlaw03.VectorProducts': WHATEVER THE INPUT: true; the input reads as it did. -/
def vectorProductsSpec : ChangeSpec := { name := "vectorProducts", fn := fun _ => fun
  | [d1, d2] => { results := [.lit (.bool true)], args := [d1, d2] }
  | _ => none }
def vectorProductsRow : OpenClaim := { program := "ytoffcodhcbgbdaa", sum := "b6e9215b7b461a9c47ea6750202458e615b2158d5b28f82055fec6ef1b5b91fc", func := "gangsaw/gangsawlaw03.VectorProducts", spec := "vectorProducts", apart := false }
def VectorProductsSaid : Prop := vectorProductsRow.holds Try.pinned (OpenSpec.ofChange vectorProductsSpec)

/-- ITS FALSE NEIGHBOUR: 'it returns false'. Refute it at one input. -/
def vectorProductsWrong : ChangeSpec := { name := "vectorProducts", fn := fun _ => fun
  | [d1, d2] => { results := [.lit (.bool false)], args := [d1, d2] }
  | _ => none }
def VectorProductsWrongFalsely : Prop := vectorProductsRow.holds Try.pinned (OpenSpec.ofChange vectorProductsWrong)

/-- 'gangsawlaw03.VectorAdds': WHATEVER THE INPUT: true; the input reads as it did. -/
def vectorAddsSpec : ChangeSpec := { name := "vectorAdds", fn := fun _ => fun
  | [d1, d2] => { results := [.lit (.bool true)], args := [d1, d2] }
  | _ => none }
def vectorAddsRow : OpenClaim := { program := "ytoffcodhcbgbdaa", sum := "b6e9215b7b461a9c47ea6750202458e615b2158d5b28f82055fec6ef1b5b91fc", func := "gangsaw/gangsawlaw03.VectorAdds", spec := "vectorAdds", apart := false }
def VectorAddsSaid : Prop := vectorAddsRow.holds Try.pinned (OpenSpec.ofChange vectorAddsSpec)

/-- ITS FALSE NEIGHBOUR: 'it returns false'. Refute it at one input. -/
def vectorAddsWrong : ChangeSpec := { name := "vectorAdds", fn := fun _ => fun
  | [d1, d2] => { results := [.lit (.bool false)], args := [d1, d2] }
  | _ => none }
def VectorAddsWrongFalsely : Prop := vectorAddsRow.holds Try.pinned (OpenSpec.ofChange vectorAddsWrong)

/-- 'gangsawlaw03.VectorLaws': WHATEVER THE INPUT: true; the input reads as it did. -/
def vectorLawsSpec : ChangeSpec := { name := "vectorLaws", fn := fun _ => fun
  | [d1, d2, d3] => { results := [.lit (.bool true)], args := [d1, d2, d3] }
  | _ => none }
def vectorLawsRow : OpenClaim := { program := "ytoffcodhcbgbdaa", sum := "b6e9215b7b461a9c47ea6750202458e615b2158d5b28f82055fec6ef1b5b91fc", func := "gangsaw/gangsawlaw03.VectorLaws", spec := "vectorLaws", apart := false }
def VectorLawsSaid : Prop := vectorLawsRow.holds Try.pinned (OpenSpec.ofChange vectorLawsSpec)

/-- ITS FALSE NEIGHBOUR: 'it returns false'. Refute it at one input. -/
def vectorLawsWrong : ChangeSpec := { name := "vectorLaws", fn := fun _ => fun
  | [d1, d2, d3] => { results := [.lit (.bool false)], args := [d1, d2, d3] }
  | _ => none }
def VectorLawsWrongFalsely : Prop := vectorLawsRow.holds Try.pinned (OpenSpec.ofChange vectorLawsWrong)

/- THE SECOND FORM. 'bulk': how many values and letters a reading holds, each counted each time it is reached (what is shared counts as often as it is met; a slice's spare places count too). A statement '..UptoSaid' is the law's where the arguments, and the package variables that the reading takes, are together of bulk at most 1048576: NARROWER than '..Said'. Prove '..Said' where nothing that the law and all that it calls make is longer than what came in: it says more and counts as full. Else prove '..UptoSaid'. A law counts once. -/
mutual
def uptoBulk {H : Type} : DataW H → Nat
  | .lit (.string bytes) => bytes.length + 1
  | .lit _ => 1
  | .nil => 1
  | .ptr d => uptoBulk d + 1
  | .slice elems spare => uptoBulkAll elems + uptoBulkAll spare + 1
  | .agg parts => uptoBulkAll parts + 1
  | .iface _ d => uptoBulk d + 1
  | .map entries => uptoBulkEntries entries + 1
  | .held _ => 1
def uptoBulkAll {H : Type} : List (DataW H) → Nat
  | [] => 0
  | d :: r => uptoBulk d + uptoBulkAll r
def uptoBulkEntries {H : Type} : List (Lit × DataW H) → Nat
  | [] => 0
  | x :: r => uptoBulkEntry x + uptoBulkEntries r
def uptoBulkEntry {H : Type} : Lit × DataW H → Nat
  | (.string bytes, d) => bytes.length + uptoBulk d + 1
  | (_, d) => uptoBulk d + 1
 end
def uptoSmall : (H : Type) → List (DataW H) → Bool := fun _ ds => decide (uptoBulkAll ds ≤ 1048576)
def OpenSpec.upto (s : _root_.Go.ChangeSpec) : _root_.Go.OpenSpec := { _root_.Go.OpenSpec.ofChange s with cond := some uptoSmall }

/-- 'gangsawlaw03.VectorPrimitives', WHERE WHAT IT READS IS OF BULK AT MOST 1048576: true; the input reads as it did. -/
def vectorPrimitivesUptoRow : OpenClaim := { program := "ytoffcodhcbgbdaa", sum := "b6e9215b7b461a9c47ea6750202458e615b2158d5b28f82055fec6ef1b5b91fc", func := "gangsaw/gangsawlaw03.VectorPrimitives", spec := "vectorPrimitives", apart := false, narrowed := true }
def VectorPrimitivesUptoSaid : Prop := vectorPrimitivesUptoRow.holds Try.pinned (OpenSpec.upto vectorPrimitivesSpec)

/-- 'gangsawlaw03.VectorTurns', WHERE WHAT IT READS IS OF BULK AT MOST 1048576: true; the input reads as it did. -/
def vectorTurnsUptoRow : OpenClaim := { program := "ytoffcodhcbgbdaa", sum := "b6e9215b7b461a9c47ea6750202458e615b2158d5b28f82055fec6ef1b5b91fc", func := "gangsaw/gangsawlaw03.VectorTurns", spec := "vectorTurns", apart := false, narrowed := true }
def VectorTurnsUptoSaid : Prop := vectorTurnsUptoRow.holds Try.pinned (OpenSpec.upto vectorTurnsSpec)

/-- 'gangsawlaw03.VectorMeets', WHERE WHAT IT READS IS OF BULK AT MOST 1048576: true; the input reads as it did. -/
def vectorMeetsUptoRow : OpenClaim := { program := "ytoffcodhcbgbdaa", sum := "b6e9215b7b461a9c47ea6750202458e615b2158d5b28f82055fec6ef1b5b91fc", func := "gangsaw/gangsawlaw03.VectorMeets", spec := "vectorMeets", apart := false, narrowed := true }
def VectorMeetsUptoSaid : Prop := vectorMeetsUptoRow.holds Try.pinned (OpenSpec.upto vectorMeetsSpec)

/-- 'gangsawlaw03.VectorOrder', WHERE WHAT IT READS IS OF BULK AT MOST 1048576: true; the input reads as it did. -/
def vectorOrderUptoRow : OpenClaim := { program := "ytoffcodhcbgbdaa", sum := "b6e9215b7b461a9c47ea6750202458e615b2158d5b28f82055fec6ef1b5b91fc", func := "gangsaw/gangsawlaw03.VectorOrder", spec := "vectorOrder", apart := false, narrowed := true }
def VectorOrderUptoSaid : Prop := vectorOrderUptoRow.holds Try.pinned (OpenSpec.upto vectorOrderSpec)

/-- 'gangsawlaw03.VectorReduced', WHERE WHAT IT READS IS OF BULK AT MOST 1048576: true; the input reads as it did. -/
def vectorReducedUptoRow : OpenClaim := { program := "ytoffcodhcbgbdaa", sum := "b6e9215b7b461a9c47ea6750202458e615b2158d5b28f82055fec6ef1b5b91fc", func := "gangsaw/gangsawlaw03.VectorReduced", spec := "vectorReduced", apart := false, narrowed := true }
def VectorReducedUptoSaid : Prop := vectorReducedUptoRow.holds Try.pinned (OpenSpec.upto vectorReducedSpec)

/-- 'gangsawlaw03.VectorSegments', WHERE WHAT IT READS IS OF BULK AT MOST 1048576: true; the input reads as it did. -/
def vectorSegmentsUptoRow : OpenClaim := { program := "ytoffcodhcbgbdaa", sum := "b6e9215b7b461a9c47ea6750202458e615b2158d5b28f82055fec6ef1b5b91fc", func := "gangsaw/gangsawlaw03.VectorSegments", spec := "vectorSegments", apart := false, narrowed := true }
def VectorSegmentsUptoSaid : Prop := vectorSegmentsUptoRow.holds Try.pinned (OpenSpec.upto vectorSegmentsSpec)

/-- 'gangsawlaw03.VectorProducts', WHERE WHAT IT READS IS OF BULK AT MOST 1048576: true; the input reads as it did. -/
def vectorProductsUptoRow : OpenClaim := { program := "ytoffcodhcbgbdaa", sum := "b6e9215b7b461a9c47ea6750202458e615b2158d5b28f82055fec6ef1b5b91fc", func := "gangsaw/gangsawlaw03.VectorProducts", spec := "vectorProducts", apart := false, narrowed := true }
def VectorProductsUptoSaid : Prop := vectorProductsUptoRow.holds Try.pinned (OpenSpec.upto vectorProductsSpec)

/-- 'gangsawlaw03.VectorAdds', WHERE WHAT IT READS IS OF BULK AT MOST 1048576: true; the input reads as it did. -/
def vectorAddsUptoRow : OpenClaim := { program := "ytoffcodhcbgbdaa", sum := "b6e9215b7b461a9c47ea6750202458e615b2158d5b28f82055fec6ef1b5b91fc", func := "gangsaw/gangsawlaw03.VectorAdds", spec := "vectorAdds", apart := false, narrowed := true }
def VectorAddsUptoSaid : Prop := vectorAddsUptoRow.holds Try.pinned (OpenSpec.upto vectorAddsSpec)

/-- 'gangsawlaw03.VectorLaws', WHERE WHAT IT READS IS OF BULK AT MOST 1048576: true; the input reads as it did. -/
def vectorLawsUptoRow : OpenClaim := { program := "ytoffcodhcbgbdaa", sum := "b6e9215b7b461a9c47ea6750202458e615b2158d5b28f82055fec6ef1b5b91fc", func := "gangsaw/gangsawlaw03.VectorLaws", spec := "vectorLaws", apart := false, narrowed := true }
def VectorLawsUptoSaid : Prop := vectorLawsUptoRow.holds Try.pinned (OpenSpec.upto vectorLawsSpec)

end Rows
end Go.Proofs.Ytoffcodhcbgbdaa
