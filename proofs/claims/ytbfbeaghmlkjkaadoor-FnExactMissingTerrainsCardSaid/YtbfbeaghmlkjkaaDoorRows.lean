/-
  NARROWER THAN 'FOR EVERY INPUT', by the rows' own cells (each row's printed sentence says how): FnExactIsBoard: laid · FnExactEnterCost: laid · FnExactMissingTerrains: laid · FnExactOpenHexes: laid · FnExactUnusedTerrains: laid · FnExactIsState: laid · FnExactStuckKinds: laid · FnExactOwnerOf: laid · FnExactCountSteps: laid · FnExactStrengthAt: laid · FnExactRulesText: laid.
  DERIVED. THE GIVEN ROWS OF THIS SEAT. 11 by the template 'for every input the law returns true; each argument reads behind the call as it read before'; 0 by the template 'total and deterministic' (their statements: YtbfbeaghmlkjkaaDoorTotals.lean).
  GIVEN WITH THE SEED: the statements are not yours to turn. If you find one false, say at which input.
  Laid BY PROGRAM, IN A SANDBOX (cutbox-rows.mjs): the forced cells as the released guide's own fill.sh prints them over the translation 14c9f055f2baeed1… (all of the seat's roots in one cut). By AI agents, Wed Nov 11 2026. No macro, syntax, notation, axiom, sorry.
-/
import Derived.Test.YtbfbeaghmlkjkaaDoorChecked
import GoSem.Claim
import GoSem.ClaimJoined
import GoSem.ClaimMapViews
import Derived.JoinedTies
import Derived.KernelRfl
namespace Go.Proofs.YtbfbeaghmlkjkaaDoor
/- THE CELL 'sum', in the pinned program and in every row, IS THE sha256 OF THE DUMP (.gsa) THAT YtbfbeaghmlkjkaaDoorProg.lean LOADS. Nothing in Lean hashes anything: it is a label: what it is worth is what the hold of that sum in a sandbox is worth. -/
noncomputable def Tryd.pinned : Pinned := { name := "ytbfbeaghmlkjkaadoor", sum := "14c9f055f2baeed131c4095770bb5c5773da12686d698e4bd3c522bc8c3eb2ab", checked := Tryd.checked }
namespace Rows
def none {H : Type} : Left H := { results := [], args := [] }

/- WHAT THE LISTED PACKAGE-LEVEL VARIABLES READ AS WHEN THE CALL BEGINS. Each datum BY PROGRAM (the guide's laid-datum.mjs) off the statement by which the dump's own 'gosem.cut.vars' lays the variable. In a bare row this is a premise. The card (YtbfbeaghmlkjkaaDoorCards.lean) ties it to the program's text. -/
def laid_loop_example_g00886_impl_directions {H : Type} : DataW H := .agg [.agg [.lit (.int .i64 1), .lit (.int .i64 0)], .agg [.lit (.int .i64 1), .lit (.int .i64 (-1))], .agg [.lit (.int .i64 0), .lit (.int .i64 (-1))], .agg [.lit (.int .i64 (-1)), .lit (.int .i64 0)], .agg [.lit (.int .i64 (-1)), .lit (.int .i64 1)], .agg [.lit (.int .i64 0), .lit (.int .i64 1)]]
def laid_math_bits_deBruijn32tab {H : Type} : DataW H := .agg [.lit (.int .u8 0), .lit (.int .u8 1), .lit (.int .u8 28), .lit (.int .u8 2), .lit (.int .u8 29), .lit (.int .u8 14), .lit (.int .u8 24), .lit (.int .u8 3), .lit (.int .u8 30), .lit (.int .u8 22), .lit (.int .u8 20), .lit (.int .u8 15), .lit (.int .u8 25), .lit (.int .u8 17), .lit (.int .u8 4), .lit (.int .u8 8), .lit (.int .u8 31), .lit (.int .u8 27), .lit (.int .u8 13), .lit (.int .u8 23), .lit (.int .u8 21), .lit (.int .u8 19), .lit (.int .u8 16), .lit (.int .u8 7), .lit (.int .u8 26), .lit (.int .u8 12), .lit (.int .u8 18), .lit (.int .u8 6), .lit (.int .u8 11), .lit (.int .u8 5), .lit (.int .u8 10), .lit (.int .u8 9)]
def laid_math_bits_deBruijn64tab {H : Type} : DataW H := .agg [.lit (.int .u8 0), .lit (.int .u8 1), .lit (.int .u8 56), .lit (.int .u8 2), .lit (.int .u8 57), .lit (.int .u8 49), .lit (.int .u8 28), .lit (.int .u8 3), .lit (.int .u8 61), .lit (.int .u8 58), .lit (.int .u8 42), .lit (.int .u8 50), .lit (.int .u8 38), .lit (.int .u8 29), .lit (.int .u8 17), .lit (.int .u8 4), .lit (.int .u8 62), .lit (.int .u8 47), .lit (.int .u8 59), .lit (.int .u8 36), .lit (.int .u8 45), .lit (.int .u8 43), .lit (.int .u8 51), .lit (.int .u8 22), .lit (.int .u8 53), .lit (.int .u8 39), .lit (.int .u8 33), .lit (.int .u8 30), .lit (.int .u8 24), .lit (.int .u8 18), .lit (.int .u8 12), .lit (.int .u8 5), .lit (.int .u8 63), .lit (.int .u8 55), .lit (.int .u8 48), .lit (.int .u8 27), .lit (.int .u8 60), .lit (.int .u8 41), .lit (.int .u8 37), .lit (.int .u8 16), .lit (.int .u8 46), .lit (.int .u8 35), .lit (.int .u8 44), .lit (.int .u8 21), .lit (.int .u8 52), .lit (.int .u8 32), .lit (.int .u8 23), .lit (.int .u8 11), .lit (.int .u8 54), .lit (.int .u8 26), .lit (.int .u8 40), .lit (.int .u8 15), .lit (.int .u8 34), .lit (.int .u8 20), .lit (.int .u8 31), .lit (.int .u8 10), .lit (.int .u8 25), .lit (.int .u8 14), .lit (.int .u8 19), .lit (.int .u8 9), .lit (.int .u8 13), .lit (.int .u8 8), .lit (.int .u8 7), .lit (.int .u8 6)]
def laid_internal_strconv_uint64pow10 {H : Type} : DataW H := .agg [.lit (.int .u64 1), .lit (.int .u64 10), .lit (.int .u64 100), .lit (.int .u64 1000), .lit (.int .u64 10000), .lit (.int .u64 100000), .lit (.int .u64 1000000), .lit (.int .u64 10000000), .lit (.int .u64 100000000), .lit (.int .u64 1000000000), .lit (.int .u64 10000000000), .lit (.int .u64 100000000000), .lit (.int .u64 1000000000000), .lit (.int .u64 10000000000000), .lit (.int .u64 100000000000000), .lit (.int .u64 1000000000000000), .lit (.int .u64 10000000000000000), .lit (.int .u64 100000000000000000), .lit (.int .u64 1000000000000000000), .lit (.int .u64 10000000000000000000)]
def laid_loop_example_g00886_impl_limitNames {H : Type} : DataW H := .agg [.lit (.string [115, 116, 97, 99, 107]), .lit (.string [114, 105, 118, 101, 114]), .lit (.string [114, 111, 97, 100]), .lit (.string [115, 117, 112, 112, 108, 121]), .lit (.string [116, 117, 114, 110, 115])]

/-- 'laws.FnExactIsBoard': WHATEVER THE INPUT: true; the input reads as it did. -/
def fnExactIsBoardSpec : ChangeSpec := { name := "fnExactIsBoard", vars := ["loop.example/g00886/impl.directions"], fn := fun _ => fun
  | [d, g1] => { results := [.lit (.bool true)], args := [d], vars := [g1] }
  | _ => none }
def fnExactIsBoardRow : OpenClaim := { program := "ytbfbeaghmlkjkaadoor", sum := "14c9f055f2baeed131c4095770bb5c5773da12686d698e4bd3c522bc8c3eb2ab", func := "loop.example/g00886/laws.FnExactIsBoard", spec := "fnExactIsBoard", unfollowed := true, recurses := true, named := ["loop.example/g00886/impl.directions"], apart := false, laid := [("loop.example/g00886/impl.directions", laid_loop_example_g00886_impl_directions)] }
def FnExactIsBoardSaid : Prop := fnExactIsBoardRow.holds Tryd.pinned (OpenSpec.ofChange fnExactIsBoardSpec)

/-- ITS FALSE NEIGHBOUR: 'it returns false'. Refute it at one input. -/
def fnExactIsBoardWrong : ChangeSpec := { name := "fnExactIsBoard", vars := ["loop.example/g00886/impl.directions"], fn := fun _ => fun
  | [d, g1] => { results := [.lit (.bool false)], args := [d], vars := [g1] }
  | _ => none }
def FnExactIsBoardWrongFalsely : Prop := fnExactIsBoardRow.holds Tryd.pinned (OpenSpec.ofChange fnExactIsBoardWrong)

/-- 'laws.FnExactEnterCost': WHATEVER THE INPUT: true; the input reads as it did. -/
def fnExactEnterCostSpec : ChangeSpec := { name := "fnExactEnterCost", vars := ["loop.example/g00886/impl.directions"], fn := fun _ => fun
  | [d1, d2, d3, g1] => { results := [.lit (.bool true)], args := [d1, d2, d3], vars := [g1] }
  | _ => none }
def fnExactEnterCostRow : OpenClaim := { program := "ytbfbeaghmlkjkaadoor", sum := "14c9f055f2baeed131c4095770bb5c5773da12686d698e4bd3c522bc8c3eb2ab", func := "loop.example/g00886/laws.FnExactEnterCost", spec := "fnExactEnterCost", unfollowed := true, recurses := true, named := ["loop.example/g00886/impl.directions"], apart := false, laid := [("loop.example/g00886/impl.directions", laid_loop_example_g00886_impl_directions)] }
def FnExactEnterCostSaid : Prop := fnExactEnterCostRow.holds Tryd.pinned (OpenSpec.ofChange fnExactEnterCostSpec)

/-- ITS FALSE NEIGHBOUR: 'it returns false'. Refute it at one input. -/
def fnExactEnterCostWrong : ChangeSpec := { name := "fnExactEnterCost", vars := ["loop.example/g00886/impl.directions"], fn := fun _ => fun
  | [d1, d2, d3, g1] => { results := [.lit (.bool false)], args := [d1, d2, d3], vars := [g1] }
  | _ => none }
def FnExactEnterCostWrongFalsely : Prop := fnExactEnterCostRow.holds Tryd.pinned (OpenSpec.ofChange fnExactEnterCostWrong)

/-- 'laws.FnExactMissingTerrains': WHATEVER THE INPUT: true; the input reads as it did. -/
def fnExactMissingTerrainsSpec : ChangeSpec := { name := "fnExactMissingTerrains", vars := ["loop.example/g00886/impl.directions"], fn := fun _ => fun
  | [d1, d2, g1] => { results := [.lit (.bool true)], args := [d1, d2], vars := [g1] }
  | _ => none }
def fnExactMissingTerrainsRow : OpenClaim := { program := "ytbfbeaghmlkjkaadoor", sum := "14c9f055f2baeed131c4095770bb5c5773da12686d698e4bd3c522bc8c3eb2ab", func := "loop.example/g00886/laws.FnExactMissingTerrains", spec := "fnExactMissingTerrains", unfollowed := true, recurses := true, named := ["loop.example/g00886/impl.directions"], apart := false, laid := [("loop.example/g00886/impl.directions", laid_loop_example_g00886_impl_directions)] }
def FnExactMissingTerrainsSaid : Prop := fnExactMissingTerrainsRow.holds Tryd.pinned (OpenSpec.ofChange fnExactMissingTerrainsSpec)

/-- ITS FALSE NEIGHBOUR: 'it returns false'. Refute it at one input. -/
def fnExactMissingTerrainsWrong : ChangeSpec := { name := "fnExactMissingTerrains", vars := ["loop.example/g00886/impl.directions"], fn := fun _ => fun
  | [d1, d2, g1] => { results := [.lit (.bool false)], args := [d1, d2], vars := [g1] }
  | _ => none }
def FnExactMissingTerrainsWrongFalsely : Prop := fnExactMissingTerrainsRow.holds Tryd.pinned (OpenSpec.ofChange fnExactMissingTerrainsWrong)

/-- 'laws.FnExactOpenHexes': WHATEVER THE INPUT: true; the input reads as it did. -/
def fnExactOpenHexesSpec : ChangeSpec := { name := "fnExactOpenHexes", vars := ["loop.example/g00886/impl.directions"], fn := fun _ => fun
  | [d1, d2, g1] => { results := [.lit (.bool true)], args := [d1, d2], vars := [g1] }
  | _ => none }
def fnExactOpenHexesRow : OpenClaim := { program := "ytbfbeaghmlkjkaadoor", sum := "14c9f055f2baeed131c4095770bb5c5773da12686d698e4bd3c522bc8c3eb2ab", func := "loop.example/g00886/laws.FnExactOpenHexes", spec := "fnExactOpenHexes", unfollowed := true, recurses := true, named := ["loop.example/g00886/impl.directions"], apart := false, laid := [("loop.example/g00886/impl.directions", laid_loop_example_g00886_impl_directions)] }
def FnExactOpenHexesSaid : Prop := fnExactOpenHexesRow.holds Tryd.pinned (OpenSpec.ofChange fnExactOpenHexesSpec)

/-- ITS FALSE NEIGHBOUR: 'it returns false'. Refute it at one input. -/
def fnExactOpenHexesWrong : ChangeSpec := { name := "fnExactOpenHexes", vars := ["loop.example/g00886/impl.directions"], fn := fun _ => fun
  | [d1, d2, g1] => { results := [.lit (.bool false)], args := [d1, d2], vars := [g1] }
  | _ => none }
def FnExactOpenHexesWrongFalsely : Prop := fnExactOpenHexesRow.holds Tryd.pinned (OpenSpec.ofChange fnExactOpenHexesWrong)

/-- 'laws.FnExactUnusedTerrains': WHATEVER THE INPUT: true; the input reads as it did. -/
def fnExactUnusedTerrainsSpec : ChangeSpec := { name := "fnExactUnusedTerrains", vars := ["loop.example/g00886/impl.directions"], fn := fun _ => fun
  | [d, g1] => { results := [.lit (.bool true)], args := [d], vars := [g1] }
  | _ => none }
def fnExactUnusedTerrainsRow : OpenClaim := { program := "ytbfbeaghmlkjkaadoor", sum := "14c9f055f2baeed131c4095770bb5c5773da12686d698e4bd3c522bc8c3eb2ab", func := "loop.example/g00886/laws.FnExactUnusedTerrains", spec := "fnExactUnusedTerrains", unfollowed := true, recurses := true, named := ["loop.example/g00886/impl.directions"], apart := false, laid := [("loop.example/g00886/impl.directions", laid_loop_example_g00886_impl_directions)] }
def FnExactUnusedTerrainsSaid : Prop := fnExactUnusedTerrainsRow.holds Tryd.pinned (OpenSpec.ofChange fnExactUnusedTerrainsSpec)

/-- ITS FALSE NEIGHBOUR: 'it returns false'. Refute it at one input. -/
def fnExactUnusedTerrainsWrong : ChangeSpec := { name := "fnExactUnusedTerrains", vars := ["loop.example/g00886/impl.directions"], fn := fun _ => fun
  | [d, g1] => { results := [.lit (.bool false)], args := [d], vars := [g1] }
  | _ => none }
def FnExactUnusedTerrainsWrongFalsely : Prop := fnExactUnusedTerrainsRow.holds Tryd.pinned (OpenSpec.ofChange fnExactUnusedTerrainsWrong)

/-- 'laws.FnExactIsState': WHATEVER THE INPUT: true; the input reads as it did. -/
def fnExactIsStateSpec : ChangeSpec := { name := "fnExactIsState", vars := ["loop.example/g00886/impl.directions"], fn := fun _ => fun
  | [d1, d2, g1] => { results := [.lit (.bool true)], args := [d1, d2], vars := [g1] }
  | _ => none }
def fnExactIsStateRow : OpenClaim := { program := "ytbfbeaghmlkjkaadoor", sum := "14c9f055f2baeed131c4095770bb5c5773da12686d698e4bd3c522bc8c3eb2ab", func := "loop.example/g00886/laws.FnExactIsState", spec := "fnExactIsState", unfollowed := true, recurses := true, named := ["loop.example/g00886/impl.directions"], apart := false, laid := [("loop.example/g00886/impl.directions", laid_loop_example_g00886_impl_directions)] }
def FnExactIsStateSaid : Prop := fnExactIsStateRow.holds Tryd.pinned (OpenSpec.ofChange fnExactIsStateSpec)

/-- ITS FALSE NEIGHBOUR: 'it returns false'. Refute it at one input. -/
def fnExactIsStateWrong : ChangeSpec := { name := "fnExactIsState", vars := ["loop.example/g00886/impl.directions"], fn := fun _ => fun
  | [d1, d2, g1] => { results := [.lit (.bool false)], args := [d1, d2], vars := [g1] }
  | _ => none }
def FnExactIsStateWrongFalsely : Prop := fnExactIsStateRow.holds Tryd.pinned (OpenSpec.ofChange fnExactIsStateWrong)

/-- 'laws.FnExactStuckKinds': WHATEVER THE INPUT: true; the input reads as it did. -/
def fnExactStuckKindsSpec : ChangeSpec := { name := "fnExactStuckKinds", vars := ["loop.example/g00886/impl.directions"], fn := fun _ => fun
  | [d, g1] => { results := [.lit (.bool true)], args := [d], vars := [g1] }
  | _ => none }
def fnExactStuckKindsRow : OpenClaim := { program := "ytbfbeaghmlkjkaadoor", sum := "14c9f055f2baeed131c4095770bb5c5773da12686d698e4bd3c522bc8c3eb2ab", func := "loop.example/g00886/laws.FnExactStuckKinds", spec := "fnExactStuckKinds", unfollowed := true, recurses := true, named := ["loop.example/g00886/impl.directions"], apart := false, laid := [("loop.example/g00886/impl.directions", laid_loop_example_g00886_impl_directions)] }
def FnExactStuckKindsSaid : Prop := fnExactStuckKindsRow.holds Tryd.pinned (OpenSpec.ofChange fnExactStuckKindsSpec)

/-- ITS FALSE NEIGHBOUR: 'it returns false'. Refute it at one input. -/
def fnExactStuckKindsWrong : ChangeSpec := { name := "fnExactStuckKinds", vars := ["loop.example/g00886/impl.directions"], fn := fun _ => fun
  | [d, g1] => { results := [.lit (.bool false)], args := [d], vars := [g1] }
  | _ => none }
def FnExactStuckKindsWrongFalsely : Prop := fnExactStuckKindsRow.holds Tryd.pinned (OpenSpec.ofChange fnExactStuckKindsWrong)

/-- 'laws.FnExactOwnerOf': WHATEVER THE INPUT: true; the input reads as it did. -/
def fnExactOwnerOfSpec : ChangeSpec := { name := "fnExactOwnerOf", vars := ["loop.example/g00886/impl.directions"], fn := fun _ => fun
  | [d1, d2, d3, g1] => { results := [.lit (.bool true)], args := [d1, d2, d3], vars := [g1] }
  | _ => none }
def fnExactOwnerOfRow : OpenClaim := { program := "ytbfbeaghmlkjkaadoor", sum := "14c9f055f2baeed131c4095770bb5c5773da12686d698e4bd3c522bc8c3eb2ab", func := "loop.example/g00886/laws.FnExactOwnerOf", spec := "fnExactOwnerOf", unfollowed := true, recurses := true, named := ["loop.example/g00886/impl.directions"], apart := false, laid := [("loop.example/g00886/impl.directions", laid_loop_example_g00886_impl_directions)] }
def FnExactOwnerOfSaid : Prop := fnExactOwnerOfRow.holds Tryd.pinned (OpenSpec.ofChange fnExactOwnerOfSpec)

/-- ITS FALSE NEIGHBOUR: 'it returns false'. Refute it at one input. -/
def fnExactOwnerOfWrong : ChangeSpec := { name := "fnExactOwnerOf", vars := ["loop.example/g00886/impl.directions"], fn := fun _ => fun
  | [d1, d2, d3, g1] => { results := [.lit (.bool false)], args := [d1, d2, d3], vars := [g1] }
  | _ => none }
def FnExactOwnerOfWrongFalsely : Prop := fnExactOwnerOfRow.holds Tryd.pinned (OpenSpec.ofChange fnExactOwnerOfWrong)

/-- 'laws.FnExactCountSteps': WHATEVER THE INPUT: true; the input reads as it did. -/
def fnExactCountStepsSpec : ChangeSpec := { name := "fnExactCountSteps", vars := ["loop.example/g00886/impl.directions"], fn := fun _ => fun
  | [d1, d2, g1] => { results := [.lit (.bool true)], args := [d1, d2], vars := [g1] }
  | _ => none }
def fnExactCountStepsRow : OpenClaim := { program := "ytbfbeaghmlkjkaadoor", sum := "14c9f055f2baeed131c4095770bb5c5773da12686d698e4bd3c522bc8c3eb2ab", func := "loop.example/g00886/laws.FnExactCountSteps", spec := "fnExactCountSteps", unfollowed := true, recurses := true, named := ["loop.example/g00886/impl.directions"], apart := false, laid := [("loop.example/g00886/impl.directions", laid_loop_example_g00886_impl_directions)] }
def FnExactCountStepsSaid : Prop := fnExactCountStepsRow.holds Tryd.pinned (OpenSpec.ofChange fnExactCountStepsSpec)

/-- ITS FALSE NEIGHBOUR: 'it returns false'. Refute it at one input. -/
def fnExactCountStepsWrong : ChangeSpec := { name := "fnExactCountSteps", vars := ["loop.example/g00886/impl.directions"], fn := fun _ => fun
  | [d1, d2, g1] => { results := [.lit (.bool false)], args := [d1, d2], vars := [g1] }
  | _ => none }
def FnExactCountStepsWrongFalsely : Prop := fnExactCountStepsRow.holds Tryd.pinned (OpenSpec.ofChange fnExactCountStepsWrong)

/-- 'laws.FnExactStrengthAt': WHATEVER THE INPUT: true; the input reads as it did. -/
def fnExactStrengthAtSpec : ChangeSpec := { name := "fnExactStrengthAt", vars := ["loop.example/g00886/impl.directions"], fn := fun _ => fun
  | [d1, d2, d3, d4, g1] => { results := [.lit (.bool true)], args := [d1, d2, d3, d4], vars := [g1] }
  | _ => none }
def fnExactStrengthAtRow : OpenClaim := { program := "ytbfbeaghmlkjkaadoor", sum := "14c9f055f2baeed131c4095770bb5c5773da12686d698e4bd3c522bc8c3eb2ab", func := "loop.example/g00886/laws.FnExactStrengthAt", spec := "fnExactStrengthAt", unfollowed := true, recurses := true, named := ["loop.example/g00886/impl.directions"], apart := false, laid := [("loop.example/g00886/impl.directions", laid_loop_example_g00886_impl_directions)] }
def FnExactStrengthAtSaid : Prop := fnExactStrengthAtRow.holds Tryd.pinned (OpenSpec.ofChange fnExactStrengthAtSpec)

/-- ITS FALSE NEIGHBOUR: 'it returns false'. Refute it at one input. -/
def fnExactStrengthAtWrong : ChangeSpec := { name := "fnExactStrengthAt", vars := ["loop.example/g00886/impl.directions"], fn := fun _ => fun
  | [d1, d2, d3, d4, g1] => { results := [.lit (.bool false)], args := [d1, d2, d3, d4], vars := [g1] }
  | _ => none }
def FnExactStrengthAtWrongFalsely : Prop := fnExactStrengthAtRow.holds Tryd.pinned (OpenSpec.ofChange fnExactStrengthAtWrong)

/-- 'laws.FnExactRulesText': WHATEVER THE INPUT: true; the input reads as it did. -/
def fnExactRulesTextSpec : ChangeSpec := { name := "fnExactRulesText", vars := ["loop.example/g00886/impl.limitNames"], fn := fun _ => fun
  | [d, g1] => { results := [.lit (.bool true)], args := [d], vars := [g1] }
  | _ => none }
def fnExactRulesTextRow : OpenClaim := { program := "ytbfbeaghmlkjkaadoor", sum := "14c9f055f2baeed131c4095770bb5c5773da12686d698e4bd3c522bc8c3eb2ab", func := "loop.example/g00886/laws.FnExactRulesText", spec := "fnExactRulesText", inPlace := ["internal/abi.NoEscape", "internal/bytealg.MakeNoZero"], unfollowed := true, recurses := true, named := ["loop.example/g00886/impl.limitNames", "internal/strconv.uint64pow10", "math/bits.deBruijn32tab", "math/bits.deBruijn64tab"], apart := false, laid := [("math/bits.deBruijn32tab", laid_math_bits_deBruijn32tab), ("math/bits.deBruijn64tab", laid_math_bits_deBruijn64tab), ("internal/strconv.uint64pow10", laid_internal_strconv_uint64pow10), ("loop.example/g00886/impl.limitNames", laid_loop_example_g00886_impl_limitNames)] }
def FnExactRulesTextSaid : Prop := fnExactRulesTextRow.holds Tryd.pinned (OpenSpec.ofChange fnExactRulesTextSpec)

/-- ITS FALSE NEIGHBOUR: 'it returns false'. Refute it at one input. -/
def fnExactRulesTextWrong : ChangeSpec := { name := "fnExactRulesText", vars := ["loop.example/g00886/impl.limitNames"], fn := fun _ => fun
  | [d, g1] => { results := [.lit (.bool false)], args := [d], vars := [g1] }
  | _ => none }
def FnExactRulesTextWrongFalsely : Prop := fnExactRulesTextRow.holds Tryd.pinned (OpenSpec.ofChange fnExactRulesTextWrong)

/- THE SECOND FORM. 'bulk': how many values and letters a reading holds, each counted each time it is reached (what is shared counts as often as it is met; a slice's spare places count too). A statement '..UptoSaid' is the law's where the arguments, and the package variables that the reading takes, are together of bulk at most 1048576: NARROWER than '..Said'. Prove '..Said' where nothing that the law and all that it calls make is longer than what came in: it says more and counts as full. Else prove '..UptoSaid'. A law counts once. -/
mutual
def uptoBulk {H : Type} : DataW H → Nat
  | .lit (.string bytes) => bytes.length + 1
  | .lit _ => 1
  | .nil => 1
  | .ptr d => uptoBulk d + 1
  | .slice elems spare => uptoBulkAll elems + uptoBulkAll spare + 1
  | .agg parts => uptoBulkAll parts + 1
  | .iface _ d => uptoBulk d + 1
  | .map entries => uptoBulkEntries entries + 1
  | .held _ => 1
def uptoBulkAll {H : Type} : List (DataW H) → Nat
  | [] => 0
  | d :: r => uptoBulk d + uptoBulkAll r
def uptoBulkEntries {H : Type} : List (Lit × DataW H) → Nat
  | [] => 0
  | x :: r => uptoBulkEntry x + uptoBulkEntries r
def uptoBulkEntry {H : Type} : Lit × DataW H → Nat
  | (.string bytes, d) => bytes.length + uptoBulk d + 1
  | (_, d) => uptoBulk d + 1
 end
def uptoSmall : (H : Type) → List (DataW H) → Bool := fun _ ds => decide (uptoBulkAll ds ≤ 1048576)
def OpenSpec.upto (s : _root_.Go.ChangeSpec) : _root_.Go.OpenSpec := { _root_.Go.OpenSpec.ofChange s with cond := some uptoSmall }

/-- 'laws.FnExactIsBoard', WHERE WHAT IT READS IS OF BULK AT MOST 1048576: true; the input reads as it did. -/
def fnExactIsBoardUptoRow : OpenClaim := { program := "ytbfbeaghmlkjkaadoor", sum := "14c9f055f2baeed131c4095770bb5c5773da12686d698e4bd3c522bc8c3eb2ab", func := "loop.example/g00886/laws.FnExactIsBoard", spec := "fnExactIsBoard", unfollowed := true, recurses := true, named := ["loop.example/g00886/impl.directions"], apart := false, laid := [("loop.example/g00886/impl.directions", laid_loop_example_g00886_impl_directions)], narrowed := true }
def FnExactIsBoardUptoSaid : Prop := fnExactIsBoardUptoRow.holds Tryd.pinned (OpenSpec.upto fnExactIsBoardSpec)

/-- 'laws.FnExactEnterCost', WHERE WHAT IT READS IS OF BULK AT MOST 1048576: true; the input reads as it did. -/
def fnExactEnterCostUptoRow : OpenClaim := { program := "ytbfbeaghmlkjkaadoor", sum := "14c9f055f2baeed131c4095770bb5c5773da12686d698e4bd3c522bc8c3eb2ab", func := "loop.example/g00886/laws.FnExactEnterCost", spec := "fnExactEnterCost", unfollowed := true, recurses := true, named := ["loop.example/g00886/impl.directions"], apart := false, laid := [("loop.example/g00886/impl.directions", laid_loop_example_g00886_impl_directions)], narrowed := true }
def FnExactEnterCostUptoSaid : Prop := fnExactEnterCostUptoRow.holds Tryd.pinned (OpenSpec.upto fnExactEnterCostSpec)

/-- 'laws.FnExactMissingTerrains', WHERE WHAT IT READS IS OF BULK AT MOST 1048576: true; the input reads as it did. -/
def fnExactMissingTerrainsUptoRow : OpenClaim := { program := "ytbfbeaghmlkjkaadoor", sum := "14c9f055f2baeed131c4095770bb5c5773da12686d698e4bd3c522bc8c3eb2ab", func := "loop.example/g00886/laws.FnExactMissingTerrains", spec := "fnExactMissingTerrains", unfollowed := true, recurses := true, named := ["loop.example/g00886/impl.directions"], apart := false, laid := [("loop.example/g00886/impl.directions", laid_loop_example_g00886_impl_directions)], narrowed := true }
def FnExactMissingTerrainsUptoSaid : Prop := fnExactMissingTerrainsUptoRow.holds Tryd.pinned (OpenSpec.upto fnExactMissingTerrainsSpec)

/-- 'laws.FnExactOpenHexes', WHERE WHAT IT READS IS OF BULK AT MOST 1048576: true; the input reads as it did. -/
def fnExactOpenHexesUptoRow : OpenClaim := { program := "ytbfbeaghmlkjkaadoor", sum := "14c9f055f2baeed131c4095770bb5c5773da12686d698e4bd3c522bc8c3eb2ab", func := "loop.example/g00886/laws.FnExactOpenHexes", spec := "fnExactOpenHexes", unfollowed := true, recurses := true, named := ["loop.example/g00886/impl.directions"], apart := false, laid := [("loop.example/g00886/impl.directions", laid_loop_example_g00886_impl_directions)], narrowed := true }
def FnExactOpenHexesUptoSaid : Prop := fnExactOpenHexesUptoRow.holds Tryd.pinned (OpenSpec.upto fnExactOpenHexesSpec)

/-- 'laws.FnExactUnusedTerrains', WHERE WHAT IT READS IS OF BULK AT MOST 1048576: true; the input reads as it did. -/
def fnExactUnusedTerrainsUptoRow : OpenClaim := { program := "ytbfbeaghmlkjkaadoor", sum := "14c9f055f2baeed131c4095770bb5c5773da12686d698e4bd3c522bc8c3eb2ab", func := "loop.example/g00886/laws.FnExactUnusedTerrains", spec := "fnExactUnusedTerrains", unfollowed := true, recurses := true, named := ["loop.example/g00886/impl.directions"], apart := false, laid := [("loop.example/g00886/impl.directions", laid_loop_example_g00886_impl_directions)], narrowed := true }
def FnExactUnusedTerrainsUptoSaid : Prop := fnExactUnusedTerrainsUptoRow.holds Tryd.pinned (OpenSpec.upto fnExactUnusedTerrainsSpec)

/-- 'laws.FnExactIsState', WHERE WHAT IT READS IS OF BULK AT MOST 1048576: true; the input reads as it did. -/
def fnExactIsStateUptoRow : OpenClaim := { program := "ytbfbeaghmlkjkaadoor", sum := "14c9f055f2baeed131c4095770bb5c5773da12686d698e4bd3c522bc8c3eb2ab", func := "loop.example/g00886/laws.FnExactIsState", spec := "fnExactIsState", unfollowed := true, recurses := true, named := ["loop.example/g00886/impl.directions"], apart := false, laid := [("loop.example/g00886/impl.directions", laid_loop_example_g00886_impl_directions)], narrowed := true }
def FnExactIsStateUptoSaid : Prop := fnExactIsStateUptoRow.holds Tryd.pinned (OpenSpec.upto fnExactIsStateSpec)

/-- 'laws.FnExactStuckKinds', WHERE WHAT IT READS IS OF BULK AT MOST 1048576: true; the input reads as it did. -/
def fnExactStuckKindsUptoRow : OpenClaim := { program := "ytbfbeaghmlkjkaadoor", sum := "14c9f055f2baeed131c4095770bb5c5773da12686d698e4bd3c522bc8c3eb2ab", func := "loop.example/g00886/laws.FnExactStuckKinds", spec := "fnExactStuckKinds", unfollowed := true, recurses := true, named := ["loop.example/g00886/impl.directions"], apart := false, laid := [("loop.example/g00886/impl.directions", laid_loop_example_g00886_impl_directions)], narrowed := true }
def FnExactStuckKindsUptoSaid : Prop := fnExactStuckKindsUptoRow.holds Tryd.pinned (OpenSpec.upto fnExactStuckKindsSpec)

/-- 'laws.FnExactOwnerOf', WHERE WHAT IT READS IS OF BULK AT MOST 1048576: true; the input reads as it did. -/
def fnExactOwnerOfUptoRow : OpenClaim := { program := "ytbfbeaghmlkjkaadoor", sum := "14c9f055f2baeed131c4095770bb5c5773da12686d698e4bd3c522bc8c3eb2ab", func := "loop.example/g00886/laws.FnExactOwnerOf", spec := "fnExactOwnerOf", unfollowed := true, recurses := true, named := ["loop.example/g00886/impl.directions"], apart := false, laid := [("loop.example/g00886/impl.directions", laid_loop_example_g00886_impl_directions)], narrowed := true }
def FnExactOwnerOfUptoSaid : Prop := fnExactOwnerOfUptoRow.holds Tryd.pinned (OpenSpec.upto fnExactOwnerOfSpec)

/-- 'laws.FnExactCountSteps', WHERE WHAT IT READS IS OF BULK AT MOST 1048576: true; the input reads as it did. -/
def fnExactCountStepsUptoRow : OpenClaim := { program := "ytbfbeaghmlkjkaadoor", sum := "14c9f055f2baeed131c4095770bb5c5773da12686d698e4bd3c522bc8c3eb2ab", func := "loop.example/g00886/laws.FnExactCountSteps", spec := "fnExactCountSteps", unfollowed := true, recurses := true, named := ["loop.example/g00886/impl.directions"], apart := false, laid := [("loop.example/g00886/impl.directions", laid_loop_example_g00886_impl_directions)], narrowed := true }
def FnExactCountStepsUptoSaid : Prop := fnExactCountStepsUptoRow.holds Tryd.pinned (OpenSpec.upto fnExactCountStepsSpec)

/-- 'laws.FnExactStrengthAt', WHERE WHAT IT READS IS OF BULK AT MOST 1048576: true; the input reads as it did. -/
def fnExactStrengthAtUptoRow : OpenClaim := { program := "ytbfbeaghmlkjkaadoor", sum := "14c9f055f2baeed131c4095770bb5c5773da12686d698e4bd3c522bc8c3eb2ab", func := "loop.example/g00886/laws.FnExactStrengthAt", spec := "fnExactStrengthAt", unfollowed := true, recurses := true, named := ["loop.example/g00886/impl.directions"], apart := false, laid := [("loop.example/g00886/impl.directions", laid_loop_example_g00886_impl_directions)], narrowed := true }
def FnExactStrengthAtUptoSaid : Prop := fnExactStrengthAtUptoRow.holds Tryd.pinned (OpenSpec.upto fnExactStrengthAtSpec)

/-- 'laws.FnExactRulesText', WHERE WHAT IT READS IS OF BULK AT MOST 1048576: true; the input reads as it did. -/
def fnExactRulesTextUptoRow : OpenClaim := { program := "ytbfbeaghmlkjkaadoor", sum := "14c9f055f2baeed131c4095770bb5c5773da12686d698e4bd3c522bc8c3eb2ab", func := "loop.example/g00886/laws.FnExactRulesText", spec := "fnExactRulesText", inPlace := ["internal/abi.NoEscape", "internal/bytealg.MakeNoZero"], unfollowed := true, recurses := true, named := ["loop.example/g00886/impl.limitNames", "internal/strconv.uint64pow10", "math/bits.deBruijn32tab", "math/bits.deBruijn64tab"], apart := false, laid := [("math/bits.deBruijn32tab", laid_math_bits_deBruijn32tab), ("math/bits.deBruijn64tab", laid_math_bits_deBruijn64tab), ("internal/strconv.uint64pow10", laid_internal_strconv_uint64pow10), ("loop.example/g00886/impl.limitNames", laid_loop_example_g00886_impl_limitNames)], narrowed := true }
def FnExactRulesTextUptoSaid : Prop := fnExactRulesTextUptoRow.holds Tryd.pinned (OpenSpec.upto fnExactRulesTextSpec)

end Rows
end Go.Proofs.YtbfbeaghmlkjkaaDoor
