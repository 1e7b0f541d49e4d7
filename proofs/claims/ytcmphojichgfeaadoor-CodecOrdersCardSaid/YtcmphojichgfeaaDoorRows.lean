/-
  NARROWER THAN 'FOR EVERY INPUT', by the rows' own cells (each row's printed sentence says how): CodecEncodes: loops, laid · CodecDecodes: laid · CodecBack: loops, laid · CodecFirst: loops, laid · CodecCompares: loops, laid · CodecOrders: loops, laid · CodecDigests: laid · CodecChanges: laid.
  DERIVED. THE GIVEN ROWS OF THIS SEAT. 8 by the template 'for every input the law returns true; each argument reads behind the call as it read before'; 0 by the template 'total and deterministic' (their statements: YtcmphojichgfeaaDoorTotals.lean).
  GIVEN WITH THE SEED: the statements are not yours to turn. If you find one false, say at which input.
  Laid BY PROGRAM, IN A SANDBOX (cutbox-rows.mjs): the forced cells as the released guide's own fill.sh prints them over the translation 1de243f248c8ab5d… (all of the seat's roots in one cut). By AI agents, Wed Nov 11 2026. No macro, syntax, notation, axiom, sorry.
-/
import Derived.Test.YtcmphojichgfeaaDoorChecked
import GoSem.Claim
import GoSem.ClaimJoined
import GoSem.ClaimMapViews
import Derived.JoinedTies
import Derived.KernelRfl
namespace Go.Proofs.YtcmphojichgfeaaDoor
/- THE CELL 'sum', in the pinned program and in every row, IS THE sha256 OF THE DUMP (.gsa) THAT YtcmphojichgfeaaDoorProg.lean LOADS. Nothing in Lean hashes anything: it is a label: what it is worth is what the hold of that sum in a sandbox is worth. -/
noncomputable def Tryd.pinned : Pinned := { name := "ytcmphojichgfeaadoor", sum := "1de243f248c8ab5d7759ae99269dc01f03a0b7529565a703e13b6ebb93b46add", checked := Tryd.checked }
namespace Rows
def none {H : Type} : Left H := { results := [], args := [] }

/- WHAT THE LISTED PACKAGE-LEVEL VARIABLES READ AS WHEN THE CALL BEGINS. Each datum BY PROGRAM (the guide's laid-datum.mjs) off the statement by which the dump's own 'gosem.cut.vars' lays the variable. In a bare row this is a premise. The card (YtcmphojichgfeaaDoorCards.lean) ties it to the program's text. -/
def laid_math_bits_deBruijn32tab {H : Type} : DataW H := .agg [.lit (.int .u8 0), .lit (.int .u8 1), .lit (.int .u8 28), .lit (.int .u8 2), .lit (.int .u8 29), .lit (.int .u8 14), .lit (.int .u8 24), .lit (.int .u8 3), .lit (.int .u8 30), .lit (.int .u8 22), .lit (.int .u8 20), .lit (.int .u8 15), .lit (.int .u8 25), .lit (.int .u8 17), .lit (.int .u8 4), .lit (.int .u8 8), .lit (.int .u8 31), .lit (.int .u8 27), .lit (.int .u8 13), .lit (.int .u8 23), .lit (.int .u8 21), .lit (.int .u8 19), .lit (.int .u8 16), .lit (.int .u8 7), .lit (.int .u8 26), .lit (.int .u8 12), .lit (.int .u8 18), .lit (.int .u8 6), .lit (.int .u8 11), .lit (.int .u8 5), .lit (.int .u8 10), .lit (.int .u8 9)]
def laid_math_bits_deBruijn64tab {H : Type} : DataW H := .agg [.lit (.int .u8 0), .lit (.int .u8 1), .lit (.int .u8 56), .lit (.int .u8 2), .lit (.int .u8 57), .lit (.int .u8 49), .lit (.int .u8 28), .lit (.int .u8 3), .lit (.int .u8 61), .lit (.int .u8 58), .lit (.int .u8 42), .lit (.int .u8 50), .lit (.int .u8 38), .lit (.int .u8 29), .lit (.int .u8 17), .lit (.int .u8 4), .lit (.int .u8 62), .lit (.int .u8 47), .lit (.int .u8 59), .lit (.int .u8 36), .lit (.int .u8 45), .lit (.int .u8 43), .lit (.int .u8 51), .lit (.int .u8 22), .lit (.int .u8 53), .lit (.int .u8 39), .lit (.int .u8 33), .lit (.int .u8 30), .lit (.int .u8 24), .lit (.int .u8 18), .lit (.int .u8 12), .lit (.int .u8 5), .lit (.int .u8 63), .lit (.int .u8 55), .lit (.int .u8 48), .lit (.int .u8 27), .lit (.int .u8 60), .lit (.int .u8 41), .lit (.int .u8 37), .lit (.int .u8 16), .lit (.int .u8 46), .lit (.int .u8 35), .lit (.int .u8 44), .lit (.int .u8 21), .lit (.int .u8 52), .lit (.int .u8 32), .lit (.int .u8 23), .lit (.int .u8 11), .lit (.int .u8 54), .lit (.int .u8 26), .lit (.int .u8 40), .lit (.int .u8 15), .lit (.int .u8 34), .lit (.int .u8 20), .lit (.int .u8 31), .lit (.int .u8 10), .lit (.int .u8 25), .lit (.int .u8 14), .lit (.int .u8 19), .lit (.int .u8 9), .lit (.int .u8 13), .lit (.int .u8 8), .lit (.int .u8 7), .lit (.int .u8 6)]
def laid_internal_strconv_uint64pow10 {H : Type} : DataW H := .agg [.lit (.int .u64 1), .lit (.int .u64 10), .lit (.int .u64 100), .lit (.int .u64 1000), .lit (.int .u64 10000), .lit (.int .u64 100000), .lit (.int .u64 1000000), .lit (.int .u64 10000000), .lit (.int .u64 100000000), .lit (.int .u64 1000000000), .lit (.int .u64 10000000000), .lit (.int .u64 100000000000), .lit (.int .u64 1000000000000), .lit (.int .u64 10000000000000), .lit (.int .u64 100000000000000), .lit (.int .u64 1000000000000000), .lit (.int .u64 10000000000000000), .lit (.int .u64 100000000000000000), .lit (.int .u64 1000000000000000000), .lit (.int .u64 10000000000000000000)]

/-- 'gangsawlaw02.CodecEncodes': WHATEVER THE INPUT: true; the input reads as it did. -/
def codecEncodesSpec : ChangeSpec := { name := "codecEncodes", fn := fun _ => fun
  | [d] => { results := [.lit (.bool true)], args := [d] }
  | _ => none }
def codecEncodesRow : OpenClaim := { program := "ytcmphojichgfeaadoor", sum := "1de243f248c8ab5d7759ae99269dc01f03a0b7529565a703e13b6ebb93b46add", func := "gangsaw/gangsawlaw02.CodecEncodes", spec := "codecEncodes", inPlace := ["internal/bytealg.abigen_runtime_cmpstring", "internal/abi.NoEscape", "internal/bytealg.MakeNoZero"], unfollowed := true, recurses := true, named := ["internal/strconv.uint64pow10", "math/bits.deBruijn32tab", "math/bits.deBruijn64tab"], loops := true, apart := false, laid := [("math/bits.deBruijn32tab", laid_math_bits_deBruijn32tab), ("math/bits.deBruijn64tab", laid_math_bits_deBruijn64tab), ("internal/strconv.uint64pow10", laid_internal_strconv_uint64pow10)] }
def CodecEncodesSaid : Prop := codecEncodesRow.holds Tryd.pinned (OpenSpec.ofChange codecEncodesSpec)

/-- ITS FALSE NEIGHBOUR: 'it returns false'. Refute it at one input. -/
def codecEncodesWrong : ChangeSpec := { name := "codecEncodes", fn := fun _ => fun
  | [d] => { results := [.lit (.bool false)], args := [d] }
  | _ => none }
def CodecEncodesWrongFalsely : Prop := codecEncodesRow.holds Tryd.pinned (OpenSpec.ofChange codecEncodesWrong)

/-- 'gangsawlaw02.CodecDecodes': WHATEVER THE INPUT: true; the input reads as it did. -/
def codecDecodesSpec : ChangeSpec := { name := "codecDecodes", fn := fun _ => fun
  | [d] => { results := [.lit (.bool true)], args := [d] }
  | _ => none }
def codecDecodesRow : OpenClaim := { program := "ytcmphojichgfeaadoor", sum := "1de243f248c8ab5d7759ae99269dc01f03a0b7529565a703e13b6ebb93b46add", func := "gangsaw/gangsawlaw02.CodecDecodes", spec := "codecDecodes", inPlace := ["internal/bytealg.abigen_runtime_cmpstring", "internal/abi.NoEscape", "internal/bytealg.MakeNoZero"], unfollowed := true, recurses := true, named := ["internal/strconv.uint64pow10", "math/bits.deBruijn32tab", "math/bits.deBruijn64tab"], apart := false, laid := [("math/bits.deBruijn32tab", laid_math_bits_deBruijn32tab), ("math/bits.deBruijn64tab", laid_math_bits_deBruijn64tab), ("internal/strconv.uint64pow10", laid_internal_strconv_uint64pow10)] }
def CodecDecodesSaid : Prop := codecDecodesRow.holds Tryd.pinned (OpenSpec.ofChange codecDecodesSpec)

/-- ITS FALSE NEIGHBOUR: 'it returns false'. Refute it at one input. -/
def codecDecodesWrong : ChangeSpec := { name := "codecDecodes", fn := fun _ => fun
  | [d] => { results := [.lit (.bool false)], args := [d] }
  | _ => none }
def CodecDecodesWrongFalsely : Prop := codecDecodesRow.holds Tryd.pinned (OpenSpec.ofChange codecDecodesWrong)

/-- 'gangsawlaw02.CodecBack': WHATEVER THE INPUT: true; the input reads as it did. -/
def codecBackSpec : ChangeSpec := { name := "codecBack", fn := fun _ => fun
  | [d1, d2] => { results := [.lit (.bool true)], args := [d1, d2] }
  | _ => none }
def codecBackRow : OpenClaim := { program := "ytcmphojichgfeaadoor", sum := "1de243f248c8ab5d7759ae99269dc01f03a0b7529565a703e13b6ebb93b46add", func := "gangsaw/gangsawlaw02.CodecBack", spec := "codecBack", inPlace := ["internal/bytealg.abigen_runtime_cmpstring", "internal/abi.NoEscape", "internal/bytealg.MakeNoZero"], unfollowed := true, recurses := true, named := ["internal/strconv.uint64pow10", "math/bits.deBruijn32tab", "math/bits.deBruijn64tab"], loops := true, apart := false, laid := [("math/bits.deBruijn32tab", laid_math_bits_deBruijn32tab), ("math/bits.deBruijn64tab", laid_math_bits_deBruijn64tab), ("internal/strconv.uint64pow10", laid_internal_strconv_uint64pow10)] }
def CodecBackSaid : Prop := codecBackRow.holds Tryd.pinned (OpenSpec.ofChange codecBackSpec)

/-- ITS FALSE NEIGHBOUR: 'it returns false'. Refute it at one input. -/
def codecBackWrong : ChangeSpec := { name := "codecBack", fn := fun _ => fun
  | [d1, d2] => { results := [.lit (.bool false)], args := [d1, d2] }
  | _ => none }
def CodecBackWrongFalsely : Prop := codecBackRow.holds Tryd.pinned (OpenSpec.ofChange codecBackWrong)

/-- 'gangsawlaw02.CodecFirst': WHATEVER THE INPUT: true; the input reads as it did. -/
def codecFirstSpec : ChangeSpec := { name := "codecFirst", fn := fun _ => fun
  | [d1, d2, d3] => { results := [.lit (.bool true)], args := [d1, d2, d3] }
  | _ => none }
def codecFirstRow : OpenClaim := { program := "ytcmphojichgfeaadoor", sum := "1de243f248c8ab5d7759ae99269dc01f03a0b7529565a703e13b6ebb93b46add", func := "gangsaw/gangsawlaw02.CodecFirst", spec := "codecFirst", inPlace := ["internal/bytealg.abigen_runtime_cmpstring", "internal/abi.NoEscape", "internal/bytealg.MakeNoZero"], unfollowed := true, recurses := true, named := ["internal/strconv.uint64pow10", "math/bits.deBruijn32tab", "math/bits.deBruijn64tab"], loops := true, apart := false, laid := [("math/bits.deBruijn32tab", laid_math_bits_deBruijn32tab), ("math/bits.deBruijn64tab", laid_math_bits_deBruijn64tab), ("internal/strconv.uint64pow10", laid_internal_strconv_uint64pow10)] }
def CodecFirstSaid : Prop := codecFirstRow.holds Tryd.pinned (OpenSpec.ofChange codecFirstSpec)

/-- ITS FALSE NEIGHBOUR: 'it returns false'. Refute it at one input. -/
def codecFirstWrong : ChangeSpec := { name := "codecFirst", fn := fun _ => fun
  | [d1, d2, d3] => { results := [.lit (.bool false)], args := [d1, d2, d3] }
  | _ => none }
def CodecFirstWrongFalsely : Prop := codecFirstRow.holds Tryd.pinned (OpenSpec.ofChange codecFirstWrong)

/-- 'gangsawlaw02.CodecCompares': WHATEVER THE INPUT: true; the input reads as it did. -/
def codecComparesSpec : ChangeSpec := { name := "codecCompares", fn := fun _ => fun
  | [d1, d2] => { results := [.lit (.bool true)], args := [d1, d2] }
  | _ => none }
def codecComparesRow : OpenClaim := { program := "ytcmphojichgfeaadoor", sum := "1de243f248c8ab5d7759ae99269dc01f03a0b7529565a703e13b6ebb93b46add", func := "gangsaw/gangsawlaw02.CodecCompares", spec := "codecCompares", inPlace := ["internal/bytealg.abigen_runtime_cmpstring", "internal/abi.NoEscape", "internal/bytealg.MakeNoZero"], unfollowed := true, recurses := true, named := ["internal/strconv.uint64pow10", "math/bits.deBruijn32tab", "math/bits.deBruijn64tab"], loops := true, apart := false, laid := [("math/bits.deBruijn32tab", laid_math_bits_deBruijn32tab), ("math/bits.deBruijn64tab", laid_math_bits_deBruijn64tab), ("internal/strconv.uint64pow10", laid_internal_strconv_uint64pow10)] }
def CodecComparesSaid : Prop := codecComparesRow.holds Tryd.pinned (OpenSpec.ofChange codecComparesSpec)

/-- ITS FALSE NEIGHBOUR: 'it returns false'. Refute it at one input. -/
def codecComparesWrong : ChangeSpec := { name := "codecCompares", fn := fun _ => fun
  | [d1, d2] => { results := [.lit (.bool false)], args := [d1, d2] }
  | _ => none }
def CodecComparesWrongFalsely : Prop := codecComparesRow.holds Tryd.pinned (OpenSpec.ofChange codecComparesWrong)

/-- 'gangsawlaw02.CodecOrders': WHATEVER THE INPUT: true; the input reads as it did. -/
def codecOrdersSpec : ChangeSpec := { name := "codecOrders", fn := fun _ => fun
  | [d1, d2, d3] => { results := [.lit (.bool true)], args := [d1, d2, d3] }
  | _ => none }
def codecOrdersRow : OpenClaim := { program := "ytcmphojichgfeaadoor", sum := "1de243f248c8ab5d7759ae99269dc01f03a0b7529565a703e13b6ebb93b46add", func := "gangsaw/gangsawlaw02.CodecOrders", spec := "codecOrders", inPlace := ["internal/bytealg.abigen_runtime_cmpstring", "internal/abi.NoEscape", "internal/bytealg.MakeNoZero"], unfollowed := true, recurses := true, named := ["internal/strconv.uint64pow10", "math/bits.deBruijn32tab", "math/bits.deBruijn64tab"], loops := true, apart := false, laid := [("math/bits.deBruijn32tab", laid_math_bits_deBruijn32tab), ("math/bits.deBruijn64tab", laid_math_bits_deBruijn64tab), ("internal/strconv.uint64pow10", laid_internal_strconv_uint64pow10)] }
def CodecOrdersSaid : Prop := codecOrdersRow.holds Tryd.pinned (OpenSpec.ofChange codecOrdersSpec)

/-- ITS FALSE NEIGHBOUR: 'it returns false'. Refute it at one input. -/
def codecOrdersWrong : ChangeSpec := { name := "codecOrders", fn := fun _ => fun
  | [d1, d2, d3] => { results := [.lit (.bool false)], args := [d1, d2, d3] }
  | _ => none }
def CodecOrdersWrongFalsely : Prop := codecOrdersRow.holds Tryd.pinned (OpenSpec.ofChange codecOrdersWrong)

/-- 'gangsawlaw02.CodecDigests': WHATEVER THE INPUT: true; the input reads as it did. -/
def codecDigestsSpec : ChangeSpec := { name := "codecDigests", fn := fun _ => fun
  | [d] => { results := [.lit (.bool true)], args := [d] }
  | _ => none }
def codecDigestsRow : OpenClaim := { program := "ytcmphojichgfeaadoor", sum := "1de243f248c8ab5d7759ae99269dc01f03a0b7529565a703e13b6ebb93b46add", func := "gangsaw/gangsawlaw02.CodecDigests", spec := "codecDigests", inPlace := ["internal/bytealg.abigen_runtime_cmpstring", "internal/abi.NoEscape", "internal/bytealg.MakeNoZero"], unfollowed := true, recurses := true, named := ["internal/strconv.uint64pow10", "math/bits.deBruijn32tab", "math/bits.deBruijn64tab"], apart := false, laid := [("math/bits.deBruijn32tab", laid_math_bits_deBruijn32tab), ("math/bits.deBruijn64tab", laid_math_bits_deBruijn64tab), ("internal/strconv.uint64pow10", laid_internal_strconv_uint64pow10)] }
def CodecDigestsSaid : Prop := codecDigestsRow.holds Tryd.pinned (OpenSpec.ofChange codecDigestsSpec)

/-- ITS FALSE NEIGHBOUR: 'it returns false'. Refute it at one input. -/
def codecDigestsWrong : ChangeSpec := { name := "codecDigests", fn := fun _ => fun
  | [d] => { results := [.lit (.bool false)], args := [d] }
  | _ => none }
def CodecDigestsWrongFalsely : Prop := codecDigestsRow.holds Tryd.pinned (OpenSpec.ofChange codecDigestsWrong)

/-- 'gangsawlaw02.CodecChanges': WHATEVER THE INPUT: true; the input reads as it did. -/
def codecChangesSpec : ChangeSpec := { name := "codecChanges", fn := fun _ => fun
  | [d1, d2, d3] => { results := [.lit (.bool true)], args := [d1, d2, d3] }
  | _ => none }
def codecChangesRow : OpenClaim := { program := "ytcmphojichgfeaadoor", sum := "1de243f248c8ab5d7759ae99269dc01f03a0b7529565a703e13b6ebb93b46add", func := "gangsaw/gangsawlaw02.CodecChanges", spec := "codecChanges", inPlace := ["internal/bytealg.abigen_runtime_cmpstring", "internal/abi.NoEscape", "internal/bytealg.MakeNoZero"], unfollowed := true, recurses := true, named := ["internal/strconv.uint64pow10", "math/bits.deBruijn32tab", "math/bits.deBruijn64tab"], apart := false, laid := [("math/bits.deBruijn32tab", laid_math_bits_deBruijn32tab), ("math/bits.deBruijn64tab", laid_math_bits_deBruijn64tab), ("internal/strconv.uint64pow10", laid_internal_strconv_uint64pow10)] }
def CodecChangesSaid : Prop := codecChangesRow.holds Tryd.pinned (OpenSpec.ofChange codecChangesSpec)

/-- ITS FALSE NEIGHBOUR: 'it returns false'. Refute it at one input. -/
def codecChangesWrong : ChangeSpec := { name := "codecChanges", fn := fun _ => fun
  | [d1, d2, d3] => { results := [.lit (.bool false)], args := [d1, d2, d3] }
  | _ => none }
def CodecChangesWrongFalsely : Prop := codecChangesRow.holds Tryd.pinned (OpenSpec.ofChange codecChangesWrong)

/- THE SECOND FORM. 'bulk': how many values and letters a reading holds, each counted each time it is reached (what is shared counts as often as it is met; a slice's spare places count too). A statement '..UptoSaid' is the law's where the arguments, and the package variables that the reading takes, are together of bulk at most 1048576: NARROWER than '..Said'. Prove '..Said' where nothing that the law and all that it calls make is longer than what came in: it says more and counts as full. Else prove '..UptoSaid'. A law counts once. -/
mutual
def uptoBulk {H : Type} : DataW H → Nat
  | .lit (.string bytes) => bytes.length + 1
  | .lit _ => 1
  | .nil => 1
  | .ptr d => uptoBulk d + 1
  | .slice elems spare => uptoBulkAll elems + uptoBulkAll spare + 1
  | .agg parts => uptoBulkAll parts + 1
  | .iface _ d => uptoBulk d + 1
  | .map entries => uptoBulkEntries entries + 1
  | .held _ => 1
def uptoBulkAll {H : Type} : List (DataW H) → Nat
  | [] => 0
  | d :: r => uptoBulk d + uptoBulkAll r
def uptoBulkEntries {H : Type} : List (Lit × DataW H) → Nat
  | [] => 0
  | x :: r => uptoBulkEntry x + uptoBulkEntries r
def uptoBulkEntry {H : Type} : Lit × DataW H → Nat
  | (.string bytes, d) => bytes.length + uptoBulk d + 1
  | (_, d) => uptoBulk d + 1
 end
def uptoSmall : (H : Type) → List (DataW H) → Bool := fun _ ds => decide (uptoBulkAll ds ≤ 1048576)
def OpenSpec.upto (s : _root_.Go.ChangeSpec) : _root_.Go.OpenSpec := { _root_.Go.OpenSpec.ofChange s with cond := some uptoSmall }

/-- 'gangsawlaw02.CodecEncodes', WHERE WHAT IT READS IS OF BULK AT MOST 1048576: true; the input reads as it did. -/
def codecEncodesUptoRow : OpenClaim := { program := "ytcmphojichgfeaadoor", sum := "1de243f248c8ab5d7759ae99269dc01f03a0b7529565a703e13b6ebb93b46add", func := "gangsaw/gangsawlaw02.CodecEncodes", spec := "codecEncodes", inPlace := ["internal/bytealg.abigen_runtime_cmpstring", "internal/abi.NoEscape", "internal/bytealg.MakeNoZero"], unfollowed := true, recurses := true, named := ["internal/strconv.uint64pow10", "math/bits.deBruijn32tab", "math/bits.deBruijn64tab"], loops := true, apart := false, laid := [("math/bits.deBruijn32tab", laid_math_bits_deBruijn32tab), ("math/bits.deBruijn64tab", laid_math_bits_deBruijn64tab), ("internal/strconv.uint64pow10", laid_internal_strconv_uint64pow10)], narrowed := true }
def CodecEncodesUptoSaid : Prop := codecEncodesUptoRow.holds Tryd.pinned (OpenSpec.upto codecEncodesSpec)

/-- 'gangsawlaw02.CodecDecodes', WHERE WHAT IT READS IS OF BULK AT MOST 1048576: true; the input reads as it did. -/
def codecDecodesUptoRow : OpenClaim := { program := "ytcmphojichgfeaadoor", sum := "1de243f248c8ab5d7759ae99269dc01f03a0b7529565a703e13b6ebb93b46add", func := "gangsaw/gangsawlaw02.CodecDecodes", spec := "codecDecodes", inPlace := ["internal/bytealg.abigen_runtime_cmpstring", "internal/abi.NoEscape", "internal/bytealg.MakeNoZero"], unfollowed := true, recurses := true, named := ["internal/strconv.uint64pow10", "math/bits.deBruijn32tab", "math/bits.deBruijn64tab"], apart := false, laid := [("math/bits.deBruijn32tab", laid_math_bits_deBruijn32tab), ("math/bits.deBruijn64tab", laid_math_bits_deBruijn64tab), ("internal/strconv.uint64pow10", laid_internal_strconv_uint64pow10)], narrowed := true }
def CodecDecodesUptoSaid : Prop := codecDecodesUptoRow.holds Tryd.pinned (OpenSpec.upto codecDecodesSpec)

/-- 'gangsawlaw02.CodecBack', WHERE WHAT IT READS IS OF BULK AT MOST 1048576: true; the input reads as it did. -/
def codecBackUptoRow : OpenClaim := { program := "ytcmphojichgfeaadoor", sum := "1de243f248c8ab5d7759ae99269dc01f03a0b7529565a703e13b6ebb93b46add", func := "gangsaw/gangsawlaw02.CodecBack", spec := "codecBack", inPlace := ["internal/bytealg.abigen_runtime_cmpstring", "internal/abi.NoEscape", "internal/bytealg.MakeNoZero"], unfollowed := true, recurses := true, named := ["internal/strconv.uint64pow10", "math/bits.deBruijn32tab", "math/bits.deBruijn64tab"], loops := true, apart := false, laid := [("math/bits.deBruijn32tab", laid_math_bits_deBruijn32tab), ("math/bits.deBruijn64tab", laid_math_bits_deBruijn64tab), ("internal/strconv.uint64pow10", laid_internal_strconv_uint64pow10)], narrowed := true }
def CodecBackUptoSaid : Prop := codecBackUptoRow.holds Tryd.pinned (OpenSpec.upto codecBackSpec)

/-- 'gangsawlaw02.CodecFirst', WHERE WHAT IT READS IS OF BULK AT MOST 1048576: true; the input reads as it did. -/
def codecFirstUptoRow : OpenClaim := { program := "ytcmphojichgfeaadoor", sum := "1de243f248c8ab5d7759ae99269dc01f03a0b7529565a703e13b6ebb93b46add", func := "gangsaw/gangsawlaw02.CodecFirst", spec := "codecFirst", inPlace := ["internal/bytealg.abigen_runtime_cmpstring", "internal/abi.NoEscape", "internal/bytealg.MakeNoZero"], unfollowed := true, recurses := true, named := ["internal/strconv.uint64pow10", "math/bits.deBruijn32tab", "math/bits.deBruijn64tab"], loops := true, apart := false, laid := [("math/bits.deBruijn32tab", laid_math_bits_deBruijn32tab), ("math/bits.deBruijn64tab", laid_math_bits_deBruijn64tab), ("internal/strconv.uint64pow10", laid_internal_strconv_uint64pow10)], narrowed := true }
def CodecFirstUptoSaid : Prop := codecFirstUptoRow.holds Tryd.pinned (OpenSpec.upto codecFirstSpec)

/-- 'gangsawlaw02.CodecCompares', WHERE WHAT IT READS IS OF BULK AT MOST 1048576: true; the input reads as it did. -/
def codecComparesUptoRow : OpenClaim := { program := "ytcmphojichgfeaadoor", sum := "1de243f248c8ab5d7759ae99269dc01f03a0b7529565a703e13b6ebb93b46add", func := "gangsaw/gangsawlaw02.CodecCompares", spec := "codecCompares", inPlace := ["internal/bytealg.abigen_runtime_cmpstring", "internal/abi.NoEscape", "internal/bytealg.MakeNoZero"], unfollowed := true, recurses := true, named := ["internal/strconv.uint64pow10", "math/bits.deBruijn32tab", "math/bits.deBruijn64tab"], loops := true, apart := false, laid := [("math/bits.deBruijn32tab", laid_math_bits_deBruijn32tab), ("math/bits.deBruijn64tab", laid_math_bits_deBruijn64tab), ("internal/strconv.uint64pow10", laid_internal_strconv_uint64pow10)], narrowed := true }
def CodecComparesUptoSaid : Prop := codecComparesUptoRow.holds Tryd.pinned (OpenSpec.upto codecComparesSpec)

/-- 'gangsawlaw02.CodecOrders', WHERE WHAT IT READS IS OF BULK AT MOST 1048576: true; the input reads as it did. -/
def codecOrdersUptoRow : OpenClaim := { program := "ytcmphojichgfeaadoor", sum := "1de243f248c8ab5d7759ae99269dc01f03a0b7529565a703e13b6ebb93b46add", func := "gangsaw/gangsawlaw02.CodecOrders", spec := "codecOrders", inPlace := ["internal/bytealg.abigen_runtime_cmpstring", "internal/abi.NoEscape", "internal/bytealg.MakeNoZero"], unfollowed := true, recurses := true, named := ["internal/strconv.uint64pow10", "math/bits.deBruijn32tab", "math/bits.deBruijn64tab"], loops := true, apart := false, laid := [("math/bits.deBruijn32tab", laid_math_bits_deBruijn32tab), ("math/bits.deBruijn64tab", laid_math_bits_deBruijn64tab), ("internal/strconv.uint64pow10", laid_internal_strconv_uint64pow10)], narrowed := true }
def CodecOrdersUptoSaid : Prop := codecOrdersUptoRow.holds Tryd.pinned (OpenSpec.upto codecOrdersSpec)

/-- 'gangsawlaw02.CodecDigests', WHERE WHAT IT READS IS OF BULK AT MOST 1048576: true; the input reads as it did. -/
def codecDigestsUptoRow : OpenClaim := { program := "ytcmphojichgfeaadoor", sum := "1de243f248c8ab5d7759ae99269dc01f03a0b7529565a703e13b6ebb93b46add", func := "gangsaw/gangsawlaw02.CodecDigests", spec := "codecDigests", inPlace := ["internal/bytealg.abigen_runtime_cmpstring", "internal/abi.NoEscape", "internal/bytealg.MakeNoZero"], unfollowed := true, recurses := true, named := ["internal/strconv.uint64pow10", "math/bits.deBruijn32tab", "math/bits.deBruijn64tab"], apart := false, laid := [("math/bits.deBruijn32tab", laid_math_bits_deBruijn32tab), ("math/bits.deBruijn64tab", laid_math_bits_deBruijn64tab), ("internal/strconv.uint64pow10", laid_internal_strconv_uint64pow10)], narrowed := true }
def CodecDigestsUptoSaid : Prop := codecDigestsUptoRow.holds Tryd.pinned (OpenSpec.upto codecDigestsSpec)

/-- 'gangsawlaw02.CodecChanges', WHERE WHAT IT READS IS OF BULK AT MOST 1048576: true; the input reads as it did. -/
def codecChangesUptoRow : OpenClaim := { program := "ytcmphojichgfeaadoor", sum := "1de243f248c8ab5d7759ae99269dc01f03a0b7529565a703e13b6ebb93b46add", func := "gangsaw/gangsawlaw02.CodecChanges", spec := "codecChanges", inPlace := ["internal/bytealg.abigen_runtime_cmpstring", "internal/abi.NoEscape", "internal/bytealg.MakeNoZero"], unfollowed := true, recurses := true, named := ["internal/strconv.uint64pow10", "math/bits.deBruijn32tab", "math/bits.deBruijn64tab"], apart := false, laid := [("math/bits.deBruijn32tab", laid_math_bits_deBruijn32tab), ("math/bits.deBruijn64tab", laid_math_bits_deBruijn64tab), ("internal/strconv.uint64pow10", laid_internal_strconv_uint64pow10)], narrowed := true }
def CodecChangesUptoSaid : Prop := codecChangesUptoRow.holds Tryd.pinned (OpenSpec.upto codecChangesSpec)

end Rows
end Go.Proofs.YtcmphojichgfeaaDoor
