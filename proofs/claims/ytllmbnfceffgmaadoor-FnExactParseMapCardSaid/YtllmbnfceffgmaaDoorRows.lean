/-
  NARROWER THAN 'FOR EVERY INPUT', by the rows' own cells (each row's printed sentence says how): FnExactParseMap: laid · FnExactIsMap: laid · FnExactEndsOf: laid · FnExactNextTo: laid · FnExactIndexOf: laid · FnExactHexAt: laid · FnExactEdgeOf: laid · FnExactHasRiver: laid · FnExactHasRoad: laid · FnExactNearOn: laid · FnExactMapText: laid · FnExactMirrorMap: laid.
  DERIVED. THE GIVEN ROWS OF THIS SEAT. 12 by the template 'for every input the law returns true; each argument reads behind the call as it read before'; 0 by the template 'total and deterministic' (their statements: YtllmbnfceffgmaaDoorTotals.lean).
  GIVEN WITH THE SEED: the statements are not yours to turn. If you find one false, say at which input.
  Laid BY PROGRAM, IN A SANDBOX (cutbox-rows.mjs): the forced cells as the released guide's own fill.sh prints them over the translation 5015da6651bd0410… (all of the seat's roots in one cut). By AI agents, Wed Nov 11 2026. No macro, syntax, notation, axiom, sorry.
-/
import Derived.Test.YtllmbnfceffgmaaDoorChecked
import GoSem.PinnedTables
import GoSem.Claim
import GoSem.ClaimJoined
import GoSem.ClaimMapViews
import Derived.JoinedTies
import Derived.KernelRfl
namespace Go.Proofs.YtllmbnfceffgmaaDoor
/- THE CELL 'sum', in the pinned program and in every row, IS THE sha256 OF THE DUMP (.gsa) THAT YtllmbnfceffgmaaDoorProg.lean LOADS. Nothing in Lean hashes anything: it is a label: what it is worth is what the hold of that sum in a sandbox is worth. -/
noncomputable def Tryd.pinned : Pinned := { name := "ytllmbnfceffgmaadoor", sum := "5015da6651bd041027f95396326be4163847810f3de303f4f2799d04543f89ab", checked := Tryd.checked }
namespace Rows
def none {H : Type} : Left H := { results := [], args := [] }

/- WHAT THE LISTED PACKAGE-LEVEL VARIABLES READ AS WHEN THE CALL BEGINS. Each datum BY PROGRAM (the guide's laid-datum.mjs) off the statement by which the dump's own 'gosem.cut.vars' lays the variable. In a bare row this is a premise. The card (YtllmbnfceffgmaaDoorCards.lean) ties it to the program's text. -/
def laid_math_bits_deBruijn32tab {H : Type} : DataW H := .agg [.lit (.int .u8 0), .lit (.int .u8 1), .lit (.int .u8 28), .lit (.int .u8 2), .lit (.int .u8 29), .lit (.int .u8 14), .lit (.int .u8 24), .lit (.int .u8 3), .lit (.int .u8 30), .lit (.int .u8 22), .lit (.int .u8 20), .lit (.int .u8 15), .lit (.int .u8 25), .lit (.int .u8 17), .lit (.int .u8 4), .lit (.int .u8 8), .lit (.int .u8 31), .lit (.int .u8 27), .lit (.int .u8 13), .lit (.int .u8 23), .lit (.int .u8 21), .lit (.int .u8 19), .lit (.int .u8 16), .lit (.int .u8 7), .lit (.int .u8 26), .lit (.int .u8 12), .lit (.int .u8 18), .lit (.int .u8 6), .lit (.int .u8 11), .lit (.int .u8 5), .lit (.int .u8 10), .lit (.int .u8 9)]
def laid_math_bits_deBruijn64tab {H : Type} : DataW H := .agg [.lit (.int .u8 0), .lit (.int .u8 1), .lit (.int .u8 56), .lit (.int .u8 2), .lit (.int .u8 57), .lit (.int .u8 49), .lit (.int .u8 28), .lit (.int .u8 3), .lit (.int .u8 61), .lit (.int .u8 58), .lit (.int .u8 42), .lit (.int .u8 50), .lit (.int .u8 38), .lit (.int .u8 29), .lit (.int .u8 17), .lit (.int .u8 4), .lit (.int .u8 62), .lit (.int .u8 47), .lit (.int .u8 59), .lit (.int .u8 36), .lit (.int .u8 45), .lit (.int .u8 43), .lit (.int .u8 51), .lit (.int .u8 22), .lit (.int .u8 53), .lit (.int .u8 39), .lit (.int .u8 33), .lit (.int .u8 30), .lit (.int .u8 24), .lit (.int .u8 18), .lit (.int .u8 12), .lit (.int .u8 5), .lit (.int .u8 63), .lit (.int .u8 55), .lit (.int .u8 48), .lit (.int .u8 27), .lit (.int .u8 60), .lit (.int .u8 41), .lit (.int .u8 37), .lit (.int .u8 16), .lit (.int .u8 46), .lit (.int .u8 35), .lit (.int .u8 44), .lit (.int .u8 21), .lit (.int .u8 52), .lit (.int .u8 32), .lit (.int .u8 23), .lit (.int .u8 11), .lit (.int .u8 54), .lit (.int .u8 26), .lit (.int .u8 40), .lit (.int .u8 15), .lit (.int .u8 34), .lit (.int .u8 20), .lit (.int .u8 31), .lit (.int .u8 10), .lit (.int .u8 25), .lit (.int .u8 14), .lit (.int .u8 19), .lit (.int .u8 9), .lit (.int .u8 13), .lit (.int .u8 8), .lit (.int .u8 7), .lit (.int .u8 6)]
def laid_internal_strconv_uint64pow10 {H : Type} : DataW H := .agg [.lit (.int .u64 1), .lit (.int .u64 10), .lit (.int .u64 100), .lit (.int .u64 1000), .lit (.int .u64 10000), .lit (.int .u64 100000), .lit (.int .u64 1000000), .lit (.int .u64 10000000), .lit (.int .u64 100000000), .lit (.int .u64 1000000000), .lit (.int .u64 10000000000), .lit (.int .u64 100000000000), .lit (.int .u64 1000000000000), .lit (.int .u64 10000000000000), .lit (.int .u64 100000000000000), .lit (.int .u64 1000000000000000), .lit (.int .u64 10000000000000000), .lit (.int .u64 100000000000000000), .lit (.int .u64 1000000000000000000), .lit (.int .u64 10000000000000000000)]
def laid_unicode_utf8_acceptRanges {H : Type} : DataW H := .agg [.agg [.lit (.int .u8 128), .lit (.int .u8 191)], .agg [.lit (.int .u8 160), .lit (.int .u8 191)], .agg [.lit (.int .u8 128), .lit (.int .u8 159)], .agg [.lit (.int .u8 144), .lit (.int .u8 191)], .agg [.lit (.int .u8 128), .lit (.int .u8 143)], .agg [.lit (.int .u8 0), .lit (.int .u8 0)], .agg [.lit (.int .u8 0), .lit (.int .u8 0)], .agg [.lit (.int .u8 0), .lit (.int .u8 0)], .agg [.lit (.int .u8 0), .lit (.int .u8 0)], .agg [.lit (.int .u8 0), .lit (.int .u8 0)], .agg [.lit (.int .u8 0), .lit (.int .u8 0)], .agg [.lit (.int .u8 0), .lit (.int .u8 0)], .agg [.lit (.int .u8 0), .lit (.int .u8 0)], .agg [.lit (.int .u8 0), .lit (.int .u8 0)], .agg [.lit (.int .u8 0), .lit (.int .u8 0)], .agg [.lit (.int .u8 0), .lit (.int .u8 0)]]
def laid_strconv_ErrRange {H : Type} : DataW H := .iface "*errors.errorString" (.ptr (.agg [.lit (.string [118, 97, 108, 117, 101, 32, 111, 117, 116, 32, 111, 102, 32, 114, 97, 110, 103, 101])]))
def laid_strconv_ErrSyntax {H : Type} : DataW H := .iface "*errors.errorString" (.ptr (.agg [.lit (.string [105, 110, 118, 97, 108, 105, 100, 32, 115, 121, 110, 116, 97, 120])]))
def laid_loop_example_g00886_impl_directions {H : Type} : DataW H := .agg [.agg [.lit (.int .i64 1), .lit (.int .i64 0)], .agg [.lit (.int .i64 1), .lit (.int .i64 (-1))], .agg [.lit (.int .i64 0), .lit (.int .i64 (-1))], .agg [.lit (.int .i64 (-1)), .lit (.int .i64 0)], .agg [.lit (.int .i64 (-1)), .lit (.int .i64 1)], .agg [.lit (.int .i64 0), .lit (.int .i64 1)]]
/-- One of Go's own tables, pinned by name: the form's constant. -/
def laid_unicode_utf8_first : DataW Unit := Go.Pinned.utf8First

/-- 'laws.FnExactParseMap': WHATEVER THE INPUT: true; the input reads as it did. -/
def fnExactParseMapSpec : ChangeSpec := { name := "fnExactParseMap", vars := ["loop.example/g00886/impl.directions"], fn := fun _ => fun
  | [d, g1] => { results := [.lit (.bool true)], args := [d], vars := [g1] }
  | _ => none }
def fnExactParseMapRow : OpenClaim := { program := "ytllmbnfceffgmaadoor", sum := "5015da6651bd041027f95396326be4163847810f3de303f4f2799d04543f89ab", func := "loop.example/g00886/laws.FnExactParseMap", spec := "fnExactParseMap", inPlace := ["internal/bytealg.CountString", "internal/bytealg.IndexByteString", "internal/bytealg.IndexString", "internal/abi.NoEscape", "internal/bytealg.MakeNoZero"], recurses := true, named := ["unicode/utf8.first", "unicode/utf8.acceptRanges", "internal/bytealg.MaxLen", "strconv.ErrSyntax", "strconv.ErrRange", "internal/strconv.uint64pow10", "math/bits.deBruijn32tab", "math/bits.deBruijn64tab", "loop.example/g00886/impl.directions"], apart := false, laid := [("math/bits.deBruijn32tab", laid_math_bits_deBruijn32tab), ("math/bits.deBruijn64tab", laid_math_bits_deBruijn64tab), ("internal/strconv.uint64pow10", laid_internal_strconv_uint64pow10), ("unicode/utf8.acceptRanges", laid_unicode_utf8_acceptRanges), ("strconv.ErrRange", laid_strconv_ErrRange), ("strconv.ErrSyntax", laid_strconv_ErrSyntax), ("loop.example/g00886/impl.directions", laid_loop_example_g00886_impl_directions), ("unicode/utf8.first", laid_unicode_utf8_first)] }
def FnExactParseMapSaid : Prop := fnExactParseMapRow.holds Tryd.pinned (OpenSpec.ofChange fnExactParseMapSpec)

/-- ITS FALSE NEIGHBOUR: 'it returns false'. Refute it at one input. -/
def fnExactParseMapWrong : ChangeSpec := { name := "fnExactParseMap", vars := ["loop.example/g00886/impl.directions"], fn := fun _ => fun
  | [d, g1] => { results := [.lit (.bool false)], args := [d], vars := [g1] }
  | _ => none }
def FnExactParseMapWrongFalsely : Prop := fnExactParseMapRow.holds Tryd.pinned (OpenSpec.ofChange fnExactParseMapWrong)

/-- 'laws.FnExactIsMap': WHATEVER THE INPUT: true; the input reads as it did. -/
def fnExactIsMapSpec : ChangeSpec := { name := "fnExactIsMap", vars := ["loop.example/g00886/impl.directions"], fn := fun _ => fun
  | [d, g1] => { results := [.lit (.bool true)], args := [d], vars := [g1] }
  | _ => none }
def fnExactIsMapRow : OpenClaim := { program := "ytllmbnfceffgmaadoor", sum := "5015da6651bd041027f95396326be4163847810f3de303f4f2799d04543f89ab", func := "loop.example/g00886/laws.FnExactIsMap", spec := "fnExactIsMap", named := ["loop.example/g00886/impl.directions"], apart := false, laid := [("loop.example/g00886/impl.directions", laid_loop_example_g00886_impl_directions)] }
def FnExactIsMapSaid : Prop := fnExactIsMapRow.holds Tryd.pinned (OpenSpec.ofChange fnExactIsMapSpec)

/-- ITS FALSE NEIGHBOUR: 'it returns false'. Refute it at one input. -/
def fnExactIsMapWrong : ChangeSpec := { name := "fnExactIsMap", vars := ["loop.example/g00886/impl.directions"], fn := fun _ => fun
  | [d, g1] => { results := [.lit (.bool false)], args := [d], vars := [g1] }
  | _ => none }
def FnExactIsMapWrongFalsely : Prop := fnExactIsMapRow.holds Tryd.pinned (OpenSpec.ofChange fnExactIsMapWrong)

/-- 'laws.FnExactEndsOf': WHATEVER THE INPUT: true; the input reads as it did. -/
def fnExactEndsOfSpec : ChangeSpec := { name := "fnExactEndsOf", vars := ["loop.example/g00886/impl.directions"], fn := fun _ => fun
  | [d1, d2, g1] => { results := [.lit (.bool true)], args := [d1, d2], vars := [g1] }
  | _ => none }
def fnExactEndsOfRow : OpenClaim := { program := "ytllmbnfceffgmaadoor", sum := "5015da6651bd041027f95396326be4163847810f3de303f4f2799d04543f89ab", func := "loop.example/g00886/laws.FnExactEndsOf", spec := "fnExactEndsOf", named := ["loop.example/g00886/impl.directions"], apart := false, laid := [("loop.example/g00886/impl.directions", laid_loop_example_g00886_impl_directions)] }
def FnExactEndsOfSaid : Prop := fnExactEndsOfRow.holds Tryd.pinned (OpenSpec.ofChange fnExactEndsOfSpec)

/-- ITS FALSE NEIGHBOUR: 'it returns false'. Refute it at one input. -/
def fnExactEndsOfWrong : ChangeSpec := { name := "fnExactEndsOf", vars := ["loop.example/g00886/impl.directions"], fn := fun _ => fun
  | [d1, d2, g1] => { results := [.lit (.bool false)], args := [d1, d2], vars := [g1] }
  | _ => none }
def FnExactEndsOfWrongFalsely : Prop := fnExactEndsOfRow.holds Tryd.pinned (OpenSpec.ofChange fnExactEndsOfWrong)

/-- 'laws.FnExactNextTo': WHATEVER THE INPUT: true; the input reads as it did. -/
def fnExactNextToSpec : ChangeSpec := { name := "fnExactNextTo", vars := ["loop.example/g00886/impl.directions"], fn := fun _ => fun
  | [d1, d2, d3, g1] => { results := [.lit (.bool true)], args := [d1, d2, d3], vars := [g1] }
  | _ => none }
def fnExactNextToRow : OpenClaim := { program := "ytllmbnfceffgmaadoor", sum := "5015da6651bd041027f95396326be4163847810f3de303f4f2799d04543f89ab", func := "loop.example/g00886/laws.FnExactNextTo", spec := "fnExactNextTo", named := ["loop.example/g00886/impl.directions"], apart := false, laid := [("loop.example/g00886/impl.directions", laid_loop_example_g00886_impl_directions)] }
def FnExactNextToSaid : Prop := fnExactNextToRow.holds Tryd.pinned (OpenSpec.ofChange fnExactNextToSpec)

/-- ITS FALSE NEIGHBOUR: 'it returns false'. Refute it at one input. -/
def fnExactNextToWrong : ChangeSpec := { name := "fnExactNextTo", vars := ["loop.example/g00886/impl.directions"], fn := fun _ => fun
  | [d1, d2, d3, g1] => { results := [.lit (.bool false)], args := [d1, d2, d3], vars := [g1] }
  | _ => none }
def FnExactNextToWrongFalsely : Prop := fnExactNextToRow.holds Tryd.pinned (OpenSpec.ofChange fnExactNextToWrong)

/-- 'laws.FnExactIndexOf': WHATEVER THE INPUT: true; the input reads as it did. -/
def fnExactIndexOfSpec : ChangeSpec := { name := "fnExactIndexOf", vars := ["loop.example/g00886/impl.directions"], fn := fun _ => fun
  | [d1, d2, g1] => { results := [.lit (.bool true)], args := [d1, d2], vars := [g1] }
  | _ => none }
def fnExactIndexOfRow : OpenClaim := { program := "ytllmbnfceffgmaadoor", sum := "5015da6651bd041027f95396326be4163847810f3de303f4f2799d04543f89ab", func := "loop.example/g00886/laws.FnExactIndexOf", spec := "fnExactIndexOf", named := ["loop.example/g00886/impl.directions"], apart := false, laid := [("loop.example/g00886/impl.directions", laid_loop_example_g00886_impl_directions)] }
def FnExactIndexOfSaid : Prop := fnExactIndexOfRow.holds Tryd.pinned (OpenSpec.ofChange fnExactIndexOfSpec)

/-- ITS FALSE NEIGHBOUR: 'it returns false'. Refute it at one input. -/
def fnExactIndexOfWrong : ChangeSpec := { name := "fnExactIndexOf", vars := ["loop.example/g00886/impl.directions"], fn := fun _ => fun
  | [d1, d2, g1] => { results := [.lit (.bool false)], args := [d1, d2], vars := [g1] }
  | _ => none }
def FnExactIndexOfWrongFalsely : Prop := fnExactIndexOfRow.holds Tryd.pinned (OpenSpec.ofChange fnExactIndexOfWrong)

/-- 'laws.FnExactHexAt': WHATEVER THE INPUT: true; the input reads as it did. -/
def fnExactHexAtSpec : ChangeSpec := { name := "fnExactHexAt", vars := ["loop.example/g00886/impl.directions"], fn := fun _ => fun
  | [d1, d2, g1] => { results := [.lit (.bool true)], args := [d1, d2], vars := [g1] }
  | _ => none }
def fnExactHexAtRow : OpenClaim := { program := "ytllmbnfceffgmaadoor", sum := "5015da6651bd041027f95396326be4163847810f3de303f4f2799d04543f89ab", func := "loop.example/g00886/laws.FnExactHexAt", spec := "fnExactHexAt", named := ["loop.example/g00886/impl.directions"], apart := false, laid := [("loop.example/g00886/impl.directions", laid_loop_example_g00886_impl_directions)] }
def FnExactHexAtSaid : Prop := fnExactHexAtRow.holds Tryd.pinned (OpenSpec.ofChange fnExactHexAtSpec)

/-- ITS FALSE NEIGHBOUR: 'it returns false'. Refute it at one input. -/
def fnExactHexAtWrong : ChangeSpec := { name := "fnExactHexAt", vars := ["loop.example/g00886/impl.directions"], fn := fun _ => fun
  | [d1, d2, g1] => { results := [.lit (.bool false)], args := [d1, d2], vars := [g1] }
  | _ => none }
def FnExactHexAtWrongFalsely : Prop := fnExactHexAtRow.holds Tryd.pinned (OpenSpec.ofChange fnExactHexAtWrong)

/-- 'laws.FnExactEdgeOf': WHATEVER THE INPUT: true; the input reads as it did. -/
def fnExactEdgeOfSpec : ChangeSpec := { name := "fnExactEdgeOf", vars := ["loop.example/g00886/impl.directions"], fn := fun _ => fun
  | [d1, d2, d3, g1] => { results := [.lit (.bool true)], args := [d1, d2, d3], vars := [g1] }
  | _ => none }
def fnExactEdgeOfRow : OpenClaim := { program := "ytllmbnfceffgmaadoor", sum := "5015da6651bd041027f95396326be4163847810f3de303f4f2799d04543f89ab", func := "loop.example/g00886/laws.FnExactEdgeOf", spec := "fnExactEdgeOf", named := ["loop.example/g00886/impl.directions"], apart := false, laid := [("loop.example/g00886/impl.directions", laid_loop_example_g00886_impl_directions)] }
def FnExactEdgeOfSaid : Prop := fnExactEdgeOfRow.holds Tryd.pinned (OpenSpec.ofChange fnExactEdgeOfSpec)

/-- ITS FALSE NEIGHBOUR: 'it returns false'. Refute it at one input. -/
def fnExactEdgeOfWrong : ChangeSpec := { name := "fnExactEdgeOf", vars := ["loop.example/g00886/impl.directions"], fn := fun _ => fun
  | [d1, d2, d3, g1] => { results := [.lit (.bool false)], args := [d1, d2, d3], vars := [g1] }
  | _ => none }
def FnExactEdgeOfWrongFalsely : Prop := fnExactEdgeOfRow.holds Tryd.pinned (OpenSpec.ofChange fnExactEdgeOfWrong)

/-- 'laws.FnExactHasRiver': WHATEVER THE INPUT: true; the input reads as it did. -/
def fnExactHasRiverSpec : ChangeSpec := { name := "fnExactHasRiver", vars := ["loop.example/g00886/impl.directions"], fn := fun _ => fun
  | [d1, d2, d3, g1] => { results := [.lit (.bool true)], args := [d1, d2, d3], vars := [g1] }
  | _ => none }
def fnExactHasRiverRow : OpenClaim := { program := "ytllmbnfceffgmaadoor", sum := "5015da6651bd041027f95396326be4163847810f3de303f4f2799d04543f89ab", func := "loop.example/g00886/laws.FnExactHasRiver", spec := "fnExactHasRiver", named := ["loop.example/g00886/impl.directions"], apart := false, laid := [("loop.example/g00886/impl.directions", laid_loop_example_g00886_impl_directions)] }
def FnExactHasRiverSaid : Prop := fnExactHasRiverRow.holds Tryd.pinned (OpenSpec.ofChange fnExactHasRiverSpec)

/-- ITS FALSE NEIGHBOUR: 'it returns false'. Refute it at one input. -/
def fnExactHasRiverWrong : ChangeSpec := { name := "fnExactHasRiver", vars := ["loop.example/g00886/impl.directions"], fn := fun _ => fun
  | [d1, d2, d3, g1] => { results := [.lit (.bool false)], args := [d1, d2, d3], vars := [g1] }
  | _ => none }
def FnExactHasRiverWrongFalsely : Prop := fnExactHasRiverRow.holds Tryd.pinned (OpenSpec.ofChange fnExactHasRiverWrong)

/-- 'laws.FnExactHasRoad': WHATEVER THE INPUT: true; the input reads as it did. -/
def fnExactHasRoadSpec : ChangeSpec := { name := "fnExactHasRoad", vars := ["loop.example/g00886/impl.directions"], fn := fun _ => fun
  | [d1, d2, d3, g1] => { results := [.lit (.bool true)], args := [d1, d2, d3], vars := [g1] }
  | _ => none }
def fnExactHasRoadRow : OpenClaim := { program := "ytllmbnfceffgmaadoor", sum := "5015da6651bd041027f95396326be4163847810f3de303f4f2799d04543f89ab", func := "loop.example/g00886/laws.FnExactHasRoad", spec := "fnExactHasRoad", named := ["loop.example/g00886/impl.directions"], apart := false, laid := [("loop.example/g00886/impl.directions", laid_loop_example_g00886_impl_directions)] }
def FnExactHasRoadSaid : Prop := fnExactHasRoadRow.holds Tryd.pinned (OpenSpec.ofChange fnExactHasRoadSpec)

/-- ITS FALSE NEIGHBOUR: 'it returns false'. Refute it at one input. -/
def fnExactHasRoadWrong : ChangeSpec := { name := "fnExactHasRoad", vars := ["loop.example/g00886/impl.directions"], fn := fun _ => fun
  | [d1, d2, d3, g1] => { results := [.lit (.bool false)], args := [d1, d2, d3], vars := [g1] }
  | _ => none }
def FnExactHasRoadWrongFalsely : Prop := fnExactHasRoadRow.holds Tryd.pinned (OpenSpec.ofChange fnExactHasRoadWrong)

/-- 'laws.FnExactNearOn': WHATEVER THE INPUT: true; the input reads as it did. -/
def fnExactNearOnSpec : ChangeSpec := { name := "fnExactNearOn", vars := ["loop.example/g00886/impl.directions"], fn := fun _ => fun
  | [d1, d2, d3, g1] => { results := [.lit (.bool true)], args := [d1, d2, d3], vars := [g1] }
  | _ => none }
def fnExactNearOnRow : OpenClaim := { program := "ytllmbnfceffgmaadoor", sum := "5015da6651bd041027f95396326be4163847810f3de303f4f2799d04543f89ab", func := "loop.example/g00886/laws.FnExactNearOn", spec := "fnExactNearOn", named := ["loop.example/g00886/impl.directions"], apart := false, laid := [("loop.example/g00886/impl.directions", laid_loop_example_g00886_impl_directions)] }
def FnExactNearOnSaid : Prop := fnExactNearOnRow.holds Tryd.pinned (OpenSpec.ofChange fnExactNearOnSpec)

/-- ITS FALSE NEIGHBOUR: 'it returns false'. Refute it at one input. -/
def fnExactNearOnWrong : ChangeSpec := { name := "fnExactNearOn", vars := ["loop.example/g00886/impl.directions"], fn := fun _ => fun
  | [d1, d2, d3, g1] => { results := [.lit (.bool false)], args := [d1, d2, d3], vars := [g1] }
  | _ => none }
def FnExactNearOnWrongFalsely : Prop := fnExactNearOnRow.holds Tryd.pinned (OpenSpec.ofChange fnExactNearOnWrong)

/-- 'laws.FnExactMapText': WHATEVER THE INPUT: true; the input reads as it did. -/
def fnExactMapTextSpec : ChangeSpec := { name := "fnExactMapText", vars := ["loop.example/g00886/impl.directions"], fn := fun _ => fun
  | [d, g1] => { results := [.lit (.bool true)], args := [d], vars := [g1] }
  | _ => none }
def fnExactMapTextRow : OpenClaim := { program := "ytllmbnfceffgmaadoor", sum := "5015da6651bd041027f95396326be4163847810f3de303f4f2799d04543f89ab", func := "loop.example/g00886/laws.FnExactMapText", spec := "fnExactMapText", inPlace := ["internal/abi.NoEscape", "internal/bytealg.MakeNoZero"], recurses := true, named := ["loop.example/g00886/impl.directions", "internal/strconv.uint64pow10", "math/bits.deBruijn32tab", "math/bits.deBruijn64tab"], apart := false, laid := [("math/bits.deBruijn32tab", laid_math_bits_deBruijn32tab), ("math/bits.deBruijn64tab", laid_math_bits_deBruijn64tab), ("internal/strconv.uint64pow10", laid_internal_strconv_uint64pow10), ("loop.example/g00886/impl.directions", laid_loop_example_g00886_impl_directions)] }
def FnExactMapTextSaid : Prop := fnExactMapTextRow.holds Tryd.pinned (OpenSpec.ofChange fnExactMapTextSpec)

/-- ITS FALSE NEIGHBOUR: 'it returns false'. Refute it at one input. -/
def fnExactMapTextWrong : ChangeSpec := { name := "fnExactMapText", vars := ["loop.example/g00886/impl.directions"], fn := fun _ => fun
  | [d, g1] => { results := [.lit (.bool false)], args := [d], vars := [g1] }
  | _ => none }
def FnExactMapTextWrongFalsely : Prop := fnExactMapTextRow.holds Tryd.pinned (OpenSpec.ofChange fnExactMapTextWrong)

/-- 'laws.FnExactMirrorMap': WHATEVER THE INPUT: true; the input reads as it did. -/
def fnExactMirrorMapSpec : ChangeSpec := { name := "fnExactMirrorMap", vars := ["loop.example/g00886/impl.directions"], fn := fun _ => fun
  | [d, g1] => { results := [.lit (.bool true)], args := [d], vars := [g1] }
  | _ => none }
def fnExactMirrorMapRow : OpenClaim := { program := "ytllmbnfceffgmaadoor", sum := "5015da6651bd041027f95396326be4163847810f3de303f4f2799d04543f89ab", func := "loop.example/g00886/laws.FnExactMirrorMap", spec := "fnExactMirrorMap", unfollowed := true, recurses := true, named := ["loop.example/g00886/impl.directions"], apart := false, laid := [("loop.example/g00886/impl.directions", laid_loop_example_g00886_impl_directions)] }
def FnExactMirrorMapSaid : Prop := fnExactMirrorMapRow.holds Tryd.pinned (OpenSpec.ofChange fnExactMirrorMapSpec)

/-- ITS FALSE NEIGHBOUR: 'it returns false'. Refute it at one input. -/
def fnExactMirrorMapWrong : ChangeSpec := { name := "fnExactMirrorMap", vars := ["loop.example/g00886/impl.directions"], fn := fun _ => fun
  | [d, g1] => { results := [.lit (.bool false)], args := [d], vars := [g1] }
  | _ => none }
def FnExactMirrorMapWrongFalsely : Prop := fnExactMirrorMapRow.holds Tryd.pinned (OpenSpec.ofChange fnExactMirrorMapWrong)

/- THE SECOND FORM. 'bulk': how many values and letters a reading holds, each counted each time it is reached (what is shared counts as often as it is met; a slice's spare places count too). A statement '..UptoSaid' is the law's where the arguments, and the package variables that the reading takes, are together of bulk at most 1048576: NARROWER than '..Said'. Prove '..Said' where nothing that the law and all that it calls make is longer than what came in: it says more and counts as full. Else prove '..UptoSaid'. A law counts once. -/
mutual
def uptoBulk {H : Type} : DataW H → Nat
  | .lit (.string bytes) => bytes.length + 1
  | .lit _ => 1
  | .nil => 1
  | .ptr d => uptoBulk d + 1
  | .slice elems spare => uptoBulkAll elems + uptoBulkAll spare + 1
  | .agg parts => uptoBulkAll parts + 1
  | .iface _ d => uptoBulk d + 1
  | .map entries => uptoBulkEntries entries + 1
  | .held _ => 1
def uptoBulkAll {H : Type} : List (DataW H) → Nat
  | [] => 0
  | d :: r => uptoBulk d + uptoBulkAll r
def uptoBulkEntries {H : Type} : List (Lit × DataW H) → Nat
  | [] => 0
  | x :: r => uptoBulkEntry x + uptoBulkEntries r
def uptoBulkEntry {H : Type} : Lit × DataW H → Nat
  | (.string bytes, d) => bytes.length + uptoBulk d + 1
  | (_, d) => uptoBulk d + 1
 end
def uptoSmall : (H : Type) → List (DataW H) → Bool := fun _ ds => decide (uptoBulkAll ds ≤ 1048576)
def OpenSpec.upto (s : _root_.Go.ChangeSpec) : _root_.Go.OpenSpec := { _root_.Go.OpenSpec.ofChange s with cond := some uptoSmall }

/-- 'laws.FnExactParseMap', WHERE WHAT IT READS IS OF BULK AT MOST 1048576: true; the input reads as it did. -/
def fnExactParseMapUptoRow : OpenClaim := { program := "ytllmbnfceffgmaadoor", sum := "5015da6651bd041027f95396326be4163847810f3de303f4f2799d04543f89ab", func := "loop.example/g00886/laws.FnExactParseMap", spec := "fnExactParseMap", inPlace := ["internal/bytealg.CountString", "internal/bytealg.IndexByteString", "internal/bytealg.IndexString", "internal/abi.NoEscape", "internal/bytealg.MakeNoZero"], recurses := true, named := ["unicode/utf8.first", "unicode/utf8.acceptRanges", "internal/bytealg.MaxLen", "strconv.ErrSyntax", "strconv.ErrRange", "internal/strconv.uint64pow10", "math/bits.deBruijn32tab", "math/bits.deBruijn64tab", "loop.example/g00886/impl.directions"], apart := false, laid := [("math/bits.deBruijn32tab", laid_math_bits_deBruijn32tab), ("math/bits.deBruijn64tab", laid_math_bits_deBruijn64tab), ("internal/strconv.uint64pow10", laid_internal_strconv_uint64pow10), ("unicode/utf8.acceptRanges", laid_unicode_utf8_acceptRanges), ("strconv.ErrRange", laid_strconv_ErrRange), ("strconv.ErrSyntax", laid_strconv_ErrSyntax), ("loop.example/g00886/impl.directions", laid_loop_example_g00886_impl_directions), ("unicode/utf8.first", laid_unicode_utf8_first)], narrowed := true }
def FnExactParseMapUptoSaid : Prop := fnExactParseMapUptoRow.holds Tryd.pinned (OpenSpec.upto fnExactParseMapSpec)

/-- 'laws.FnExactIsMap', WHERE WHAT IT READS IS OF BULK AT MOST 1048576: true; the input reads as it did. -/
def fnExactIsMapUptoRow : OpenClaim := { program := "ytllmbnfceffgmaadoor", sum := "5015da6651bd041027f95396326be4163847810f3de303f4f2799d04543f89ab", func := "loop.example/g00886/laws.FnExactIsMap", spec := "fnExactIsMap", named := ["loop.example/g00886/impl.directions"], apart := false, laid := [("loop.example/g00886/impl.directions", laid_loop_example_g00886_impl_directions)], narrowed := true }
def FnExactIsMapUptoSaid : Prop := fnExactIsMapUptoRow.holds Tryd.pinned (OpenSpec.upto fnExactIsMapSpec)

/-- 'laws.FnExactEndsOf', WHERE WHAT IT READS IS OF BULK AT MOST 1048576: true; the input reads as it did. -/
def fnExactEndsOfUptoRow : OpenClaim := { program := "ytllmbnfceffgmaadoor", sum := "5015da6651bd041027f95396326be4163847810f3de303f4f2799d04543f89ab", func := "loop.example/g00886/laws.FnExactEndsOf", spec := "fnExactEndsOf", named := ["loop.example/g00886/impl.directions"], apart := false, laid := [("loop.example/g00886/impl.directions", laid_loop_example_g00886_impl_directions)], narrowed := true }
def FnExactEndsOfUptoSaid : Prop := fnExactEndsOfUptoRow.holds Tryd.pinned (OpenSpec.upto fnExactEndsOfSpec)

/-- 'laws.FnExactNextTo', WHERE WHAT IT READS IS OF BULK AT MOST 1048576: true; the input reads as it did. -/
def fnExactNextToUptoRow : OpenClaim := { program := "ytllmbnfceffgmaadoor", sum := "5015da6651bd041027f95396326be4163847810f3de303f4f2799d04543f89ab", func := "loop.example/g00886/laws.FnExactNextTo", spec := "fnExactNextTo", named := ["loop.example/g00886/impl.directions"], apart := false, laid := [("loop.example/g00886/impl.directions", laid_loop_example_g00886_impl_directions)], narrowed := true }
def FnExactNextToUptoSaid : Prop := fnExactNextToUptoRow.holds Tryd.pinned (OpenSpec.upto fnExactNextToSpec)

/-- 'laws.FnExactIndexOf', WHERE WHAT IT READS IS OF BULK AT MOST 1048576: true; the input reads as it did. -/
def fnExactIndexOfUptoRow : OpenClaim := { program := "ytllmbnfceffgmaadoor", sum := "5015da6651bd041027f95396326be4163847810f3de303f4f2799d04543f89ab", func := "loop.example/g00886/laws.FnExactIndexOf", spec := "fnExactIndexOf", named := ["loop.example/g00886/impl.directions"], apart := false, laid := [("loop.example/g00886/impl.directions", laid_loop_example_g00886_impl_directions)], narrowed := true }
def FnExactIndexOfUptoSaid : Prop := fnExactIndexOfUptoRow.holds Tryd.pinned (OpenSpec.upto fnExactIndexOfSpec)

/-- 'laws.FnExactHexAt', WHERE WHAT IT READS IS OF BULK AT MOST 1048576: true; the input reads as it did. -/
def fnExactHexAtUptoRow : OpenClaim := { program := "ytllmbnfceffgmaadoor", sum := "5015da6651bd041027f95396326be4163847810f3de303f4f2799d04543f89ab", func := "loop.example/g00886/laws.FnExactHexAt", spec := "fnExactHexAt", named := ["loop.example/g00886/impl.directions"], apart := false, laid := [("loop.example/g00886/impl.directions", laid_loop_example_g00886_impl_directions)], narrowed := true }
def FnExactHexAtUptoSaid : Prop := fnExactHexAtUptoRow.holds Tryd.pinned (OpenSpec.upto fnExactHexAtSpec)

/-- 'laws.FnExactEdgeOf', WHERE WHAT IT READS IS OF BULK AT MOST 1048576: true; the input reads as it did. -/
def fnExactEdgeOfUptoRow : OpenClaim := { program := "ytllmbnfceffgmaadoor", sum := "5015da6651bd041027f95396326be4163847810f3de303f4f2799d04543f89ab", func := "loop.example/g00886/laws.FnExactEdgeOf", spec := "fnExactEdgeOf", named := ["loop.example/g00886/impl.directions"], apart := false, laid := [("loop.example/g00886/impl.directions", laid_loop_example_g00886_impl_directions)], narrowed := true }
def FnExactEdgeOfUptoSaid : Prop := fnExactEdgeOfUptoRow.holds Tryd.pinned (OpenSpec.upto fnExactEdgeOfSpec)

/-- 'laws.FnExactHasRiver', WHERE WHAT IT READS IS OF BULK AT MOST 1048576: true; the input reads as it did. -/
def fnExactHasRiverUptoRow : OpenClaim := { program := "ytllmbnfceffgmaadoor", sum := "5015da6651bd041027f95396326be4163847810f3de303f4f2799d04543f89ab", func := "loop.example/g00886/laws.FnExactHasRiver", spec := "fnExactHasRiver", named := ["loop.example/g00886/impl.directions"], apart := false, laid := [("loop.example/g00886/impl.directions", laid_loop_example_g00886_impl_directions)], narrowed := true }
def FnExactHasRiverUptoSaid : Prop := fnExactHasRiverUptoRow.holds Tryd.pinned (OpenSpec.upto fnExactHasRiverSpec)

/-- 'laws.FnExactHasRoad', WHERE WHAT IT READS IS OF BULK AT MOST 1048576: true; the input reads as it did. -/
def fnExactHasRoadUptoRow : OpenClaim := { program := "ytllmbnfceffgmaadoor", sum := "5015da6651bd041027f95396326be4163847810f3de303f4f2799d04543f89ab", func := "loop.example/g00886/laws.FnExactHasRoad", spec := "fnExactHasRoad", named := ["loop.example/g00886/impl.directions"], apart := false, laid := [("loop.example/g00886/impl.directions", laid_loop_example_g00886_impl_directions)], narrowed := true }
def FnExactHasRoadUptoSaid : Prop := fnExactHasRoadUptoRow.holds Tryd.pinned (OpenSpec.upto fnExactHasRoadSpec)

/-- 'laws.FnExactNearOn', WHERE WHAT IT READS IS OF BULK AT MOST 1048576: true; the input reads as it did. -/
def fnExactNearOnUptoRow : OpenClaim := { program := "ytllmbnfceffgmaadoor", sum := "5015da6651bd041027f95396326be4163847810f3de303f4f2799d04543f89ab", func := "loop.example/g00886/laws.FnExactNearOn", spec := "fnExactNearOn", named := ["loop.example/g00886/impl.directions"], apart := false, laid := [("loop.example/g00886/impl.directions", laid_loop_example_g00886_impl_directions)], narrowed := true }
def FnExactNearOnUptoSaid : Prop := fnExactNearOnUptoRow.holds Tryd.pinned (OpenSpec.upto fnExactNearOnSpec)

/-- 'laws.FnExactMapText', WHERE WHAT IT READS IS OF BULK AT MOST 1048576: true; the input reads as it did. -/
def fnExactMapTextUptoRow : OpenClaim := { program := "ytllmbnfceffgmaadoor", sum := "5015da6651bd041027f95396326be4163847810f3de303f4f2799d04543f89ab", func := "loop.example/g00886/laws.FnExactMapText", spec := "fnExactMapText", inPlace := ["internal/abi.NoEscape", "internal/bytealg.MakeNoZero"], recurses := true, named := ["loop.example/g00886/impl.directions", "internal/strconv.uint64pow10", "math/bits.deBruijn32tab", "math/bits.deBruijn64tab"], apart := false, laid := [("math/bits.deBruijn32tab", laid_math_bits_deBruijn32tab), ("math/bits.deBruijn64tab", laid_math_bits_deBruijn64tab), ("internal/strconv.uint64pow10", laid_internal_strconv_uint64pow10), ("loop.example/g00886/impl.directions", laid_loop_example_g00886_impl_directions)], narrowed := true }
def FnExactMapTextUptoSaid : Prop := fnExactMapTextUptoRow.holds Tryd.pinned (OpenSpec.upto fnExactMapTextSpec)

/-- 'laws.FnExactMirrorMap', WHERE WHAT IT READS IS OF BULK AT MOST 1048576: true; the input reads as it did. -/
def fnExactMirrorMapUptoRow : OpenClaim := { program := "ytllmbnfceffgmaadoor", sum := "5015da6651bd041027f95396326be4163847810f3de303f4f2799d04543f89ab", func := "loop.example/g00886/laws.FnExactMirrorMap", spec := "fnExactMirrorMap", unfollowed := true, recurses := true, named := ["loop.example/g00886/impl.directions"], apart := false, laid := [("loop.example/g00886/impl.directions", laid_loop_example_g00886_impl_directions)], narrowed := true }
def FnExactMirrorMapUptoSaid : Prop := fnExactMirrorMapUptoRow.holds Tryd.pinned (OpenSpec.upto fnExactMirrorMapSpec)

end Rows
end Go.Proofs.YtllmbnfceffgmaaDoor
