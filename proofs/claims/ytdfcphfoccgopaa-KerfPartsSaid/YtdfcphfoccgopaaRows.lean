/-
  No cell of these rows narrows 'for every input' (looked for: loops, veiled, ifaces, maps, wideKeys, modest, calm, conditions, laid).
  DERIVED. THE GIVEN ROWS OF THIS SEAT. 9 by the template 'for every input the law returns true; each argument reads behind the call as it read before'; 0 by the template 'total and deterministic' (their statements: YtdfcphfoccgopaaTotals.lean).
  GIVEN WITH THE SEED: the statements are not yours to turn. If you find one false, say at which input.
  Laid BY PROGRAM, IN A SANDBOX (cutbox-rows.mjs): the forced cells as the released guide's own fill.sh prints them over the translation acfd3b470ed9de9a… (all of the seat's roots in one cut). By AI agents, Wed Nov 11 2026. No macro, syntax, notation, axiom, sorry.
-/
import Derived.Test.YtdfcphfoccgopaaChecked
import GoSem.Claim
import GoSem.ClaimJoined
import GoSem.ClaimMapViews
import Derived.JoinedTies
import Derived.KernelRfl
namespace Go.Proofs.Ytdfcphfoccgopaa
/- THE CELL 'sum', in the pinned program and in every row, IS THE sha256 OF THE DUMP (.gsa) THAT YtdfcphfoccgopaaProg.lean LOADS. Nothing in Lean hashes anything: it is a label: what it is worth is what the hold of that sum in a sandbox is worth. -/
noncomputable def Try.pinned : Pinned := { name := "ytdfcphfoccgopaa", sum := "acfd3b470ed9de9a1422f5fed6b78b47fbf332e6e2950b25ef50bf2a868422c4", checked := Try.checked }
namespace Rows
def none {H : Type} : Left H := { results := [], args := [] }

/-- 'gangsawlaw23.KerfSplits': WHATEVER THE INPUT: true; the input reads as it did. -/
def kerfSplitsSpec : ChangeSpec := { name := "kerfSplits", fn := fun _ => fun
  | [d1, d2] => { results := [.lit (.bool true)], args := [d1, d2] }
  | _ => none }
def kerfSplitsRow : OpenClaim := { program := "ytdfcphfoccgopaa", sum := "acfd3b470ed9de9a1422f5fed6b78b47fbf332e6e2950b25ef50bf2a868422c4", func := "gangsaw/gangsawlaw23.KerfSplits", spec := "kerfSplits", unfollowed := true, recurses := true, apart := false }
def KerfSplitsSaid : Prop := kerfSplitsRow.holds Try.pinned (OpenSpec.ofChange kerfSplitsSpec)

/-- ITS FALSE NEIGHBOUR: 'it returns false'. Refute it at one input. -/
def kerfSplitsWrong : ChangeSpec := { name := "kerfSplits", fn := fun _ => fun
  | [d1, d2] => { results := [.lit (.bool false)], args := [d1, d2] }
  | _ => none }
def KerfSplitsWrongFalsely : Prop := kerfSplitsRow.holds Try.pinned (OpenSpec.ofChange kerfSplitsWrong)

/-- 'gangsawlaw23.KerfJoins': WHATEVER THE INPUT: true; the input reads as it did. -/
def kerfJoinsSpec : ChangeSpec := { name := "kerfJoins", fn := fun _ => fun
  | [d1, d2, d3] => { results := [.lit (.bool true)], args := [d1, d2, d3] }
  | _ => none }
def kerfJoinsRow : OpenClaim := { program := "ytdfcphfoccgopaa", sum := "acfd3b470ed9de9a1422f5fed6b78b47fbf332e6e2950b25ef50bf2a868422c4", func := "gangsaw/gangsawlaw23.KerfJoins", spec := "kerfJoins", unfollowed := true, recurses := true, apart := false }
def KerfJoinsSaid : Prop := kerfJoinsRow.holds Try.pinned (OpenSpec.ofChange kerfJoinsSpec)

/-- ITS FALSE NEIGHBOUR: 'it returns false'. Refute it at one input. -/
def kerfJoinsWrong : ChangeSpec := { name := "kerfJoins", fn := fun _ => fun
  | [d1, d2, d3] => { results := [.lit (.bool false)], args := [d1, d2, d3] }
  | _ => none }
def KerfJoinsWrongFalsely : Prop := kerfJoinsRow.holds Try.pinned (OpenSpec.ofChange kerfJoinsWrong)

/-- 'gangsawlaw23.KerfCounts': WHATEVER THE INPUT: true; the input reads as it did. -/
def kerfCountsSpec : ChangeSpec := { name := "kerfCounts", fn := fun _ => fun
  | [d1, d2, d3, d4] => { results := [.lit (.bool true)], args := [d1, d2, d3, d4] }
  | _ => none }
def kerfCountsRow : OpenClaim := { program := "ytdfcphfoccgopaa", sum := "acfd3b470ed9de9a1422f5fed6b78b47fbf332e6e2950b25ef50bf2a868422c4", func := "gangsaw/gangsawlaw23.KerfCounts", spec := "kerfCounts", unfollowed := true, recurses := true, apart := false }
def KerfCountsSaid : Prop := kerfCountsRow.holds Try.pinned (OpenSpec.ofChange kerfCountsSpec)

/-- ITS FALSE NEIGHBOUR: 'it returns false'. Refute it at one input. -/
def kerfCountsWrong : ChangeSpec := { name := "kerfCounts", fn := fun _ => fun
  | [d1, d2, d3, d4] => { results := [.lit (.bool false)], args := [d1, d2, d3, d4] }
  | _ => none }
def KerfCountsWrongFalsely : Prop := kerfCountsRow.holds Try.pinned (OpenSpec.ofChange kerfCountsWrong)

/-- 'gangsawlaw23.KerfSlices': WHATEVER THE INPUT: true; the input reads as it did. -/
def kerfSlicesSpec : ChangeSpec := { name := "kerfSlices", fn := fun _ => fun
  | [d1, d2, d3, d4] => { results := [.lit (.bool true)], args := [d1, d2, d3, d4] }
  | _ => none }
def kerfSlicesRow : OpenClaim := { program := "ytdfcphfoccgopaa", sum := "acfd3b470ed9de9a1422f5fed6b78b47fbf332e6e2950b25ef50bf2a868422c4", func := "gangsaw/gangsawlaw23.KerfSlices", spec := "kerfSlices", unfollowed := true, recurses := true, apart := false }
def KerfSlicesSaid : Prop := kerfSlicesRow.holds Try.pinned (OpenSpec.ofChange kerfSlicesSpec)

/-- ITS FALSE NEIGHBOUR: 'it returns false'. Refute it at one input. -/
def kerfSlicesWrong : ChangeSpec := { name := "kerfSlices", fn := fun _ => fun
  | [d1, d2, d3, d4] => { results := [.lit (.bool false)], args := [d1, d2, d3, d4] }
  | _ => none }
def KerfSlicesWrongFalsely : Prop := kerfSlicesRow.holds Try.pinned (OpenSpec.ofChange kerfSlicesWrong)

/-- 'gangsawlaw23.KerfTrims': WHATEVER THE INPUT: true; the input reads as it did. -/
def kerfTrimsSpec : ChangeSpec := { name := "kerfTrims", fn := fun _ => fun
  | [d1, d2, d3] => { results := [.lit (.bool true)], args := [d1, d2, d3] }
  | _ => none }
def kerfTrimsRow : OpenClaim := { program := "ytdfcphfoccgopaa", sum := "acfd3b470ed9de9a1422f5fed6b78b47fbf332e6e2950b25ef50bf2a868422c4", func := "gangsaw/gangsawlaw23.KerfTrims", spec := "kerfTrims", unfollowed := true, recurses := true, apart := false }
def KerfTrimsSaid : Prop := kerfTrimsRow.holds Try.pinned (OpenSpec.ofChange kerfTrimsSpec)

/-- ITS FALSE NEIGHBOUR: 'it returns false'. Refute it at one input. -/
def kerfTrimsWrong : ChangeSpec := { name := "kerfTrims", fn := fun _ => fun
  | [d1, d2, d3] => { results := [.lit (.bool false)], args := [d1, d2, d3] }
  | _ => none }
def KerfTrimsWrongFalsely : Prop := kerfTrimsRow.holds Try.pinned (OpenSpec.ofChange kerfTrimsWrong)

/-- 'gangsawlaw23.KerfWhole': WHATEVER THE INPUT: true; the input reads as it did. -/
def kerfWholeSpec : ChangeSpec := { name := "kerfWhole", fn := fun _ => fun
  | [d1, d2] => { results := [.lit (.bool true)], args := [d1, d2] }
  | _ => none }
def kerfWholeRow : OpenClaim := { program := "ytdfcphfoccgopaa", sum := "acfd3b470ed9de9a1422f5fed6b78b47fbf332e6e2950b25ef50bf2a868422c4", func := "gangsaw/gangsawlaw23.KerfWhole", spec := "kerfWhole", unfollowed := true, recurses := true, apart := false }
def KerfWholeSaid : Prop := kerfWholeRow.holds Try.pinned (OpenSpec.ofChange kerfWholeSpec)

/-- ITS FALSE NEIGHBOUR: 'it returns false'. Refute it at one input. -/
def kerfWholeWrong : ChangeSpec := { name := "kerfWhole", fn := fun _ => fun
  | [d1, d2] => { results := [.lit (.bool false)], args := [d1, d2] }
  | _ => none }
def KerfWholeWrongFalsely : Prop := kerfWholeRow.holds Try.pinned (OpenSpec.ofChange kerfWholeWrong)

/-- 'gangsawlaw23.KerfFits': WHATEVER THE INPUT: true; the input reads as it did. -/
def kerfFitsSpec : ChangeSpec := { name := "kerfFits", fn := fun _ => fun
  | [d1, d2, d3, d4, d5] => { results := [.lit (.bool true)], args := [d1, d2, d3, d4, d5] }
  | _ => none }
def kerfFitsRow : OpenClaim := { program := "ytdfcphfoccgopaa", sum := "acfd3b470ed9de9a1422f5fed6b78b47fbf332e6e2950b25ef50bf2a868422c4", func := "gangsaw/gangsawlaw23.KerfFits", spec := "kerfFits", unfollowed := true, recurses := true, apart := false }
def KerfFitsSaid : Prop := kerfFitsRow.holds Try.pinned (OpenSpec.ofChange kerfFitsSpec)

/-- ITS FALSE NEIGHBOUR: 'it returns false'. Refute it at one input. -/
def kerfFitsWrong : ChangeSpec := { name := "kerfFits", fn := fun _ => fun
  | [d1, d2, d3, d4, d5] => { results := [.lit (.bool false)], args := [d1, d2, d3, d4, d5] }
  | _ => none }
def KerfFitsWrongFalsely : Prop := kerfFitsRow.holds Try.pinned (OpenSpec.ofChange kerfFitsWrong)

/-- 'gangsawlaw23.KerfParts': WHATEVER THE INPUT: true; the input reads as it did. -/
def kerfPartsSpec : ChangeSpec := { name := "kerfParts", fn := fun _ => fun
  | [d1, d2, d3, d4] => { results := [.lit (.bool true)], args := [d1, d2, d3, d4] }
  | _ => none }
def kerfPartsRow : OpenClaim := { program := "ytdfcphfoccgopaa", sum := "acfd3b470ed9de9a1422f5fed6b78b47fbf332e6e2950b25ef50bf2a868422c4", func := "gangsaw/gangsawlaw23.KerfParts", spec := "kerfParts", unfollowed := true, recurses := true, apart := false }
def KerfPartsSaid : Prop := kerfPartsRow.holds Try.pinned (OpenSpec.ofChange kerfPartsSpec)

/-- ITS FALSE NEIGHBOUR: 'it returns false'. Refute it at one input. -/
def kerfPartsWrong : ChangeSpec := { name := "kerfParts", fn := fun _ => fun
  | [d1, d2, d3, d4] => { results := [.lit (.bool false)], args := [d1, d2, d3, d4] }
  | _ => none }
def KerfPartsWrongFalsely : Prop := kerfPartsRow.holds Try.pinned (OpenSpec.ofChange kerfPartsWrong)

/-- 'gangsawlaw23.KerfTrimmed': WHATEVER THE INPUT: true; the input reads as it did. -/
def kerfTrimmedSpec : ChangeSpec := { name := "kerfTrimmed", fn := fun _ => fun
  | [d1, d2, d3] => { results := [.lit (.bool true)], args := [d1, d2, d3] }
  | _ => none }
def kerfTrimmedRow : OpenClaim := { program := "ytdfcphfoccgopaa", sum := "acfd3b470ed9de9a1422f5fed6b78b47fbf332e6e2950b25ef50bf2a868422c4", func := "gangsaw/gangsawlaw23.KerfTrimmed", spec := "kerfTrimmed", unfollowed := true, recurses := true, apart := false }
def KerfTrimmedSaid : Prop := kerfTrimmedRow.holds Try.pinned (OpenSpec.ofChange kerfTrimmedSpec)

/-- ITS FALSE NEIGHBOUR: 'it returns false'. Refute it at one input. -/
def kerfTrimmedWrong : ChangeSpec := { name := "kerfTrimmed", fn := fun _ => fun
  | [d1, d2, d3] => { results := [.lit (.bool false)], args := [d1, d2, d3] }
  | _ => none }
def KerfTrimmedWrongFalsely : Prop := kerfTrimmedRow.holds Try.pinned (OpenSpec.ofChange kerfTrimmedWrong)

/- THE SECOND FORM. 'bulk': how many values and letters a reading holds, each counted each time it is reached (what is shared counts as often as it is met; a slice's spare places count too). A statement '..UptoSaid' is the law's where the arguments, and the package variables that the reading takes, are together of bulk at most 1048576: NARROWER than '..Said'. Prove '..Said' where nothing that the law and all that it calls make is longer than what came in: it says more and counts as full. Else prove '..UptoSaid'. A law counts once. -/
mutual
def uptoBulk {H : Type} : DataW H → Nat
  | .lit (.string bytes) => bytes.length + 1
  | .lit _ => 1
  | .nil => 1
  | .ptr d => uptoBulk d + 1
  | .slice elems spare => uptoBulkAll elems + uptoBulkAll spare + 1
  | .agg parts => uptoBulkAll parts + 1
  | .iface _ d => uptoBulk d + 1
  | .map entries => uptoBulkEntries entries + 1
  | .held _ => 1
def uptoBulkAll {H : Type} : List (DataW H) → Nat
  | [] => 0
  | d :: r => uptoBulk d + uptoBulkAll r
def uptoBulkEntries {H : Type} : List (Lit × DataW H) → Nat
  | [] => 0
  | x :: r => uptoBulkEntry x + uptoBulkEntries r
def uptoBulkEntry {H : Type} : Lit × DataW H → Nat
  | (.string bytes, d) => bytes.length + uptoBulk d + 1
  | (_, d) => uptoBulk d + 1
 end
def uptoSmall : (H : Type) → List (DataW H) → Bool := fun _ ds => decide (uptoBulkAll ds ≤ 1048576)
def OpenSpec.upto (s : _root_.Go.ChangeSpec) : _root_.Go.OpenSpec := { _root_.Go.OpenSpec.ofChange s with cond := some uptoSmall }

/-- 'gangsawlaw23.KerfSplits', WHERE WHAT IT READS IS OF BULK AT MOST 1048576: true; the input reads as it did. -/
def kerfSplitsUptoRow : OpenClaim := { program := "ytdfcphfoccgopaa", sum := "acfd3b470ed9de9a1422f5fed6b78b47fbf332e6e2950b25ef50bf2a868422c4", func := "gangsaw/gangsawlaw23.KerfSplits", spec := "kerfSplits", unfollowed := true, recurses := true, apart := false, narrowed := true }
def KerfSplitsUptoSaid : Prop := kerfSplitsUptoRow.holds Try.pinned (OpenSpec.upto kerfSplitsSpec)

/-- 'gangsawlaw23.KerfJoins', WHERE WHAT IT READS IS OF BULK AT MOST 1048576: true; the input reads as it did. -/
def kerfJoinsUptoRow : OpenClaim := { program := "ytdfcphfoccgopaa", sum := "acfd3b470ed9de9a1422f5fed6b78b47fbf332e6e2950b25ef50bf2a868422c4", func := "gangsaw/gangsawlaw23.KerfJoins", spec := "kerfJoins", unfollowed := true, recurses := true, apart := false, narrowed := true }
def KerfJoinsUptoSaid : Prop := kerfJoinsUptoRow.holds Try.pinned (OpenSpec.upto kerfJoinsSpec)

/-- 'gangsawlaw23.KerfCounts', WHERE WHAT IT READS IS OF BULK AT MOST 1048576: true; the input reads as it did. -/
def kerfCountsUptoRow : OpenClaim := { program := "ytdfcphfoccgopaa", sum := "acfd3b470ed9de9a1422f5fed6b78b47fbf332e6e2950b25ef50bf2a868422c4", func := "gangsaw/gangsawlaw23.KerfCounts", spec := "kerfCounts", unfollowed := true, recurses := true, apart := false, narrowed := true }
def KerfCountsUptoSaid : Prop := kerfCountsUptoRow.holds Try.pinned (OpenSpec.upto kerfCountsSpec)

/-- 'gangsawlaw23.KerfSlices', WHERE WHAT IT READS IS OF BULK AT MOST 1048576: true; the input reads as it did. -/
def kerfSlicesUptoRow : OpenClaim := { program := "ytdfcphfoccgopaa", sum := "acfd3b470ed9de9a1422f5fed6b78b47fbf332e6e2950b25ef50bf2a868422c4", func := "gangsaw/gangsawlaw23.KerfSlices", spec := "kerfSlices", unfollowed := true, recurses := true, apart := false, narrowed := true }
def KerfSlicesUptoSaid : Prop := kerfSlicesUptoRow.holds Try.pinned (OpenSpec.upto kerfSlicesSpec)

/-- 'gangsawlaw23.KerfTrims', WHERE WHAT IT READS IS OF BULK AT MOST 1048576: true; the input reads as it did. -/
def kerfTrimsUptoRow : OpenClaim := { program := "ytdfcphfoccgopaa", sum := "acfd3b470ed9de9a1422f5fed6b78b47fbf332e6e2950b25ef50bf2a868422c4", func := "gangsaw/gangsawlaw23.KerfTrims", spec := "kerfTrims", unfollowed := true, recurses := true, apart := false, narrowed := true }
def KerfTrimsUptoSaid : Prop := kerfTrimsUptoRow.holds Try.pinned (OpenSpec.upto kerfTrimsSpec)

/-- 'gangsawlaw23.KerfWhole', WHERE WHAT IT READS IS OF BULK AT MOST 1048576: true; the input reads as it did. -/
def kerfWholeUptoRow : OpenClaim := { program := "ytdfcphfoccgopaa", sum := "acfd3b470ed9de9a1422f5fed6b78b47fbf332e6e2950b25ef50bf2a868422c4", func := "gangsaw/gangsawlaw23.KerfWhole", spec := "kerfWhole", unfollowed := true, recurses := true, apart := false, narrowed := true }
def KerfWholeUptoSaid : Prop := kerfWholeUptoRow.holds Try.pinned (OpenSpec.upto kerfWholeSpec)

/-- 'gangsawlaw23.KerfFits', WHERE WHAT IT READS IS OF BULK AT MOST 1048576: true; the input reads as it did. -/
def kerfFitsUptoRow : OpenClaim := { program := "ytdfcphfoccgopaa", sum := "acfd3b470ed9de9a1422f5fed6b78b47fbf332e6e2950b25ef50bf2a868422c4", func := "gangsaw/gangsawlaw23.KerfFits", spec := "kerfFits", unfollowed := true, recurses := true, apart := false, narrowed := true }
def KerfFitsUptoSaid : Prop := kerfFitsUptoRow.holds Try.pinned (OpenSpec.upto kerfFitsSpec)

/-- 'gangsawlaw23.KerfParts', WHERE WHAT IT READS IS OF BULK AT MOST 1048576: true; the input reads as it did. -/
def kerfPartsUptoRow : OpenClaim := { program := "ytdfcphfoccgopaa", sum := "acfd3b470ed9de9a1422f5fed6b78b47fbf332e6e2950b25ef50bf2a868422c4", func := "gangsaw/gangsawlaw23.KerfParts", spec := "kerfParts", unfollowed := true, recurses := true, apart := false, narrowed := true }
def KerfPartsUptoSaid : Prop := kerfPartsUptoRow.holds Try.pinned (OpenSpec.upto kerfPartsSpec)

/-- 'gangsawlaw23.KerfTrimmed', WHERE WHAT IT READS IS OF BULK AT MOST 1048576: true; the input reads as it did. -/
def kerfTrimmedUptoRow : OpenClaim := { program := "ytdfcphfoccgopaa", sum := "acfd3b470ed9de9a1422f5fed6b78b47fbf332e6e2950b25ef50bf2a868422c4", func := "gangsaw/gangsawlaw23.KerfTrimmed", spec := "kerfTrimmed", unfollowed := true, recurses := true, apart := false, narrowed := true }
def KerfTrimmedUptoSaid : Prop := kerfTrimmedUptoRow.holds Try.pinned (OpenSpec.upto kerfTrimmedSpec)

end Rows
end Go.Proofs.Ytdfcphfoccgopaa
