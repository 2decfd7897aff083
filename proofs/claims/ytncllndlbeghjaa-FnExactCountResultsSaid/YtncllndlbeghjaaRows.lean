/-
  No cell of these rows narrows 'for every input' (looked for: loops, veiled, ifaces, maps, wideKeys, modest, calm, conditions, laid).
  DERIVED. THE GIVEN ROWS OF THIS SEAT. 10 by the template 'for every input the law returns true; each argument reads behind the call as it read before'; 0 by the template 'total and deterministic' (their statements: YtncllndlbeghjaaTotals.lean).
  GIVEN WITH THE SEED: the statements are not yours to turn. If you find one false, say at which input.
  Laid BY PROGRAM, IN A SANDBOX (cutbox-rows.mjs): the forced cells as the released guide's own fill.sh prints them over the translation 77a8c243e525e0db… (all of the seat's roots in one cut). By AI agents, Wed Nov 11 2026. No macro, syntax, notation, axiom, sorry.
-/
import Derived.Test.YtncllndlbeghjaaChecked
import GoSem.Claim
import GoSem.ClaimJoined
import GoSem.ClaimMapViews
import Derived.JoinedTies
import Derived.KernelRfl
namespace Go.Proofs.Ytncllndlbeghjaa
/- THE CELL 'sum', in the pinned program and in every row, IS THE sha256 OF THE DUMP (.gsa) THAT YtncllndlbeghjaaProg.lean LOADS. Nothing in Lean hashes anything: it is a label: what it is worth is what the hold of that sum in a sandbox is worth. -/
noncomputable def Try.pinned : Pinned := { name := "ytncllndlbeghjaa", sum := "77a8c243e525e0dba5b18cc3fb41ea0e9e3de4bf48cc7458fd47496263119018", checked := Try.checked }
namespace Rows
def none {H : Type} : Left H := { results := [], args := [] }

/-- 'laws.FnExactIsCombatTable': WHATEVER THE INPUT: true; the input reads as it did. -/
def fnExactIsCombatTableSpec : ChangeSpec := { name := "fnExactIsCombatTable", fn := fun _ => fun
  | [d] => { results := [.lit (.bool true)], args := [d] }
  | _ => none }
def fnExactIsCombatTableRow : OpenClaim := { program := "ytncllndlbeghjaa", sum := "77a8c243e525e0dba5b18cc3fb41ea0e9e3de4bf48cc7458fd47496263119018", func := "loop.example/g00886/laws.FnExactIsCombatTable", spec := "fnExactIsCombatTable", unfollowed := true, recurses := true, apart := false }
def FnExactIsCombatTableSaid : Prop := fnExactIsCombatTableRow.holds Try.pinned (OpenSpec.ofChange fnExactIsCombatTableSpec)

/-- ITS FALSE NEIGHBOUR: 'it returns false'. Refute it at one input. -/
def fnExactIsCombatTableWrong : ChangeSpec := { name := "fnExactIsCombatTable", fn := fun _ => fun
  | [d] => { results := [.lit (.bool false)], args := [d] }
  | _ => none }
def FnExactIsCombatTableWrongFalsely : Prop := fnExactIsCombatTableRow.holds Try.pinned (OpenSpec.ofChange fnExactIsCombatTableWrong)

/-- 'laws.FnExactResultAt': WHATEVER THE INPUT: true; the input reads as it did. -/
def fnExactResultAtSpec : ChangeSpec := { name := "fnExactResultAt", fn := fun _ => fun
  | [d1, d2, d3] => { results := [.lit (.bool true)], args := [d1, d2, d3] }
  | _ => none }
def fnExactResultAtRow : OpenClaim := { program := "ytncllndlbeghjaa", sum := "77a8c243e525e0dba5b18cc3fb41ea0e9e3de4bf48cc7458fd47496263119018", func := "loop.example/g00886/laws.FnExactResultAt", spec := "fnExactResultAt", unfollowed := true, recurses := true, apart := false }
def FnExactResultAtSaid : Prop := fnExactResultAtRow.holds Try.pinned (OpenSpec.ofChange fnExactResultAtSpec)

/-- ITS FALSE NEIGHBOUR: 'it returns false'. Refute it at one input. -/
def fnExactResultAtWrong : ChangeSpec := { name := "fnExactResultAt", fn := fun _ => fun
  | [d1, d2, d3] => { results := [.lit (.bool false)], args := [d1, d2, d3] }
  | _ => none }
def FnExactResultAtWrongFalsely : Prop := fnExactResultAtRow.holds Try.pinned (OpenSpec.ofChange fnExactResultAtWrong)

/-- 'laws.FnExactColumnFor': WHATEVER THE INPUT: true; the input reads as it did. -/
def fnExactColumnForSpec : ChangeSpec := { name := "fnExactColumnFor", fn := fun _ => fun
  | [d1, d2, d3] => { results := [.lit (.bool true)], args := [d1, d2, d3] }
  | _ => none }
def fnExactColumnForRow : OpenClaim := { program := "ytncllndlbeghjaa", sum := "77a8c243e525e0dba5b18cc3fb41ea0e9e3de4bf48cc7458fd47496263119018", func := "loop.example/g00886/laws.FnExactColumnFor", spec := "fnExactColumnFor", unfollowed := true, recurses := true, apart := false }
def FnExactColumnForSaid : Prop := fnExactColumnForRow.holds Try.pinned (OpenSpec.ofChange fnExactColumnForSpec)

/-- ITS FALSE NEIGHBOUR: 'it returns false'. Refute it at one input. -/
def fnExactColumnForWrong : ChangeSpec := { name := "fnExactColumnFor", fn := fun _ => fun
  | [d1, d2, d3] => { results := [.lit (.bool false)], args := [d1, d2, d3] }
  | _ => none }
def FnExactColumnForWrongFalsely : Prop := fnExactColumnForRow.holds Try.pinned (OpenSpec.ofChange fnExactColumnForWrong)

/-- 'laws.FnExactShiftColumn': WHATEVER THE INPUT: true; the input reads as it did. -/
def fnExactShiftColumnSpec : ChangeSpec := { name := "fnExactShiftColumn", fn := fun _ => fun
  | [d1, d2, d3] => { results := [.lit (.bool true)], args := [d1, d2, d3] }
  | _ => none }
def fnExactShiftColumnRow : OpenClaim := { program := "ytncllndlbeghjaa", sum := "77a8c243e525e0dba5b18cc3fb41ea0e9e3de4bf48cc7458fd47496263119018", func := "loop.example/g00886/laws.FnExactShiftColumn", spec := "fnExactShiftColumn", unfollowed := true, recurses := true, apart := false }
def FnExactShiftColumnSaid : Prop := fnExactShiftColumnRow.holds Try.pinned (OpenSpec.ofChange fnExactShiftColumnSpec)

/-- ITS FALSE NEIGHBOUR: 'it returns false'. Refute it at one input. -/
def fnExactShiftColumnWrong : ChangeSpec := { name := "fnExactShiftColumn", fn := fun _ => fun
  | [d1, d2, d3] => { results := [.lit (.bool false)], args := [d1, d2, d3] }
  | _ => none }
def FnExactShiftColumnWrongFalsely : Prop := fnExactShiftColumnRow.holds Try.pinned (OpenSpec.ofChange fnExactShiftColumnWrong)

/-- 'laws.FnExactIsMonotone': WHATEVER THE INPUT: true; the input reads as it did. -/
def fnExactIsMonotoneSpec : ChangeSpec := { name := "fnExactIsMonotone", fn := fun _ => fun
  | [d] => { results := [.lit (.bool true)], args := [d] }
  | _ => none }
def fnExactIsMonotoneRow : OpenClaim := { program := "ytncllndlbeghjaa", sum := "77a8c243e525e0dba5b18cc3fb41ea0e9e3de4bf48cc7458fd47496263119018", func := "loop.example/g00886/laws.FnExactIsMonotone", spec := "fnExactIsMonotone", unfollowed := true, recurses := true, apart := false }
def FnExactIsMonotoneSaid : Prop := fnExactIsMonotoneRow.holds Try.pinned (OpenSpec.ofChange fnExactIsMonotoneSpec)

/-- ITS FALSE NEIGHBOUR: 'it returns false'. Refute it at one input. -/
def fnExactIsMonotoneWrong : ChangeSpec := { name := "fnExactIsMonotone", fn := fun _ => fun
  | [d] => { results := [.lit (.bool false)], args := [d] }
  | _ => none }
def FnExactIsMonotoneWrongFalsely : Prop := fnExactIsMonotoneRow.holds Try.pinned (OpenSpec.ofChange fnExactIsMonotoneWrong)

/-- 'laws.FnExactMeanScore': WHATEVER THE INPUT: true; the input reads as it did. -/
def fnExactMeanScoreSpec : ChangeSpec := { name := "fnExactMeanScore", fn := fun _ => fun
  | [d1, d2] => { results := [.lit (.bool true)], args := [d1, d2] }
  | _ => none }
def fnExactMeanScoreRow : OpenClaim := { program := "ytncllndlbeghjaa", sum := "77a8c243e525e0dba5b18cc3fb41ea0e9e3de4bf48cc7458fd47496263119018", func := "loop.example/g00886/laws.FnExactMeanScore", spec := "fnExactMeanScore", unfollowed := true, recurses := true, apart := false }
def FnExactMeanScoreSaid : Prop := fnExactMeanScoreRow.holds Try.pinned (OpenSpec.ofChange fnExactMeanScoreSpec)

/-- ITS FALSE NEIGHBOUR: 'it returns false'. Refute it at one input. -/
def fnExactMeanScoreWrong : ChangeSpec := { name := "fnExactMeanScore", fn := fun _ => fun
  | [d1, d2] => { results := [.lit (.bool false)], args := [d1, d2] }
  | _ => none }
def FnExactMeanScoreWrongFalsely : Prop := fnExactMeanScoreRow.holds Try.pinned (OpenSpec.ofChange fnExactMeanScoreWrong)

/-- 'laws.FnExactCountResults': WHATEVER THE INPUT: true; the input reads as it did. -/
def fnExactCountResultsSpec : ChangeSpec := { name := "fnExactCountResults", fn := fun _ => fun
  | [d1, d2] => { results := [.lit (.bool true)], args := [d1, d2] }
  | _ => none }
def fnExactCountResultsRow : OpenClaim := { program := "ytncllndlbeghjaa", sum := "77a8c243e525e0dba5b18cc3fb41ea0e9e3de4bf48cc7458fd47496263119018", func := "loop.example/g00886/laws.FnExactCountResults", spec := "fnExactCountResults", unfollowed := true, recurses := true, apart := false }
def FnExactCountResultsSaid : Prop := fnExactCountResultsRow.holds Try.pinned (OpenSpec.ofChange fnExactCountResultsSpec)

/-- ITS FALSE NEIGHBOUR: 'it returns false'. Refute it at one input. -/
def fnExactCountResultsWrong : ChangeSpec := { name := "fnExactCountResults", fn := fun _ => fun
  | [d1, d2] => { results := [.lit (.bool false)], args := [d1, d2] }
  | _ => none }
def FnExactCountResultsWrongFalsely : Prop := fnExactCountResultsRow.holds Try.pinned (OpenSpec.ofChange fnExactCountResultsWrong)

/-- 'laws.FnExactIsRules': WHATEVER THE INPUT: true; the input reads as it did. -/
def fnExactIsRulesSpec : ChangeSpec := { name := "fnExactIsRules", fn := fun _ => fun
  | [d] => { results := [.lit (.bool true)], args := [d] }
  | _ => none }
def fnExactIsRulesRow : OpenClaim := { program := "ytncllndlbeghjaa", sum := "77a8c243e525e0dba5b18cc3fb41ea0e9e3de4bf48cc7458fd47496263119018", func := "loop.example/g00886/laws.FnExactIsRules", spec := "fnExactIsRules", unfollowed := true, recurses := true, apart := false }
def FnExactIsRulesSaid : Prop := fnExactIsRulesRow.holds Try.pinned (OpenSpec.ofChange fnExactIsRulesSpec)

/-- ITS FALSE NEIGHBOUR: 'it returns false'. Refute it at one input. -/
def fnExactIsRulesWrong : ChangeSpec := { name := "fnExactIsRules", fn := fun _ => fun
  | [d] => { results := [.lit (.bool false)], args := [d] }
  | _ => none }
def FnExactIsRulesWrongFalsely : Prop := fnExactIsRulesRow.holds Try.pinned (OpenSpec.ofChange fnExactIsRulesWrong)

/-- 'laws.FnExactKindNamed': WHATEVER THE INPUT: true; the input reads as it did. -/
def fnExactKindNamedSpec : ChangeSpec := { name := "fnExactKindNamed", fn := fun _ => fun
  | [d1, d2] => { results := [.lit (.bool true)], args := [d1, d2] }
  | _ => none }
def fnExactKindNamedRow : OpenClaim := { program := "ytncllndlbeghjaa", sum := "77a8c243e525e0dba5b18cc3fb41ea0e9e3de4bf48cc7458fd47496263119018", func := "loop.example/g00886/laws.FnExactKindNamed", spec := "fnExactKindNamed", unfollowed := true, recurses := true, apart := false }
def FnExactKindNamedSaid : Prop := fnExactKindNamedRow.holds Try.pinned (OpenSpec.ofChange fnExactKindNamedSpec)

/-- ITS FALSE NEIGHBOUR: 'it returns false'. Refute it at one input. -/
def fnExactKindNamedWrong : ChangeSpec := { name := "fnExactKindNamed", fn := fun _ => fun
  | [d1, d2] => { results := [.lit (.bool false)], args := [d1, d2] }
  | _ => none }
def FnExactKindNamedWrongFalsely : Prop := fnExactKindNamedRow.holds Try.pinned (OpenSpec.ofChange fnExactKindNamedWrong)

/-- 'laws.FnExactTerrainNamed': WHATEVER THE INPUT: true; the input reads as it did. -/
def fnExactTerrainNamedSpec : ChangeSpec := { name := "fnExactTerrainNamed", fn := fun _ => fun
  | [d1, d2] => { results := [.lit (.bool true)], args := [d1, d2] }
  | _ => none }
def fnExactTerrainNamedRow : OpenClaim := { program := "ytncllndlbeghjaa", sum := "77a8c243e525e0dba5b18cc3fb41ea0e9e3de4bf48cc7458fd47496263119018", func := "loop.example/g00886/laws.FnExactTerrainNamed", spec := "fnExactTerrainNamed", unfollowed := true, recurses := true, apart := false }
def FnExactTerrainNamedSaid : Prop := fnExactTerrainNamedRow.holds Try.pinned (OpenSpec.ofChange fnExactTerrainNamedSpec)

/-- ITS FALSE NEIGHBOUR: 'it returns false'. Refute it at one input. -/
def fnExactTerrainNamedWrong : ChangeSpec := { name := "fnExactTerrainNamed", fn := fun _ => fun
  | [d1, d2] => { results := [.lit (.bool false)], args := [d1, d2] }
  | _ => none }
def FnExactTerrainNamedWrongFalsely : Prop := fnExactTerrainNamedRow.holds Try.pinned (OpenSpec.ofChange fnExactTerrainNamedWrong)

/- THE SECOND FORM. 'bulk': how many values and letters a reading holds, each counted each time it is reached (what is shared counts as often as it is met; a slice's spare places count too). A statement '..UptoSaid' is the law's where the arguments, and the package variables that the reading takes, are together of bulk at most 1048576: NARROWER than '..Said'. Prove '..Said' where nothing that the law and all that it calls make is longer than what came in: it says more and counts as full. Else prove '..UptoSaid'. A law counts once. -/
mutual
def uptoBulk {H : Type} : DataW H → Nat
  | .lit (.string bytes) => bytes.length + 1
  | .lit _ => 1
  | .nil => 1
  | .ptr d => uptoBulk d + 1
  | .slice elems spare => uptoBulkAll elems + uptoBulkAll spare + 1
  | .agg parts => uptoBulkAll parts + 1
  | .iface _ d => uptoBulk d + 1
  | .map entries => uptoBulkEntries entries + 1
  | .held _ => 1
def uptoBulkAll {H : Type} : List (DataW H) → Nat
  | [] => 0
  | d :: r => uptoBulk d + uptoBulkAll r
def uptoBulkEntries {H : Type} : List (Lit × DataW H) → Nat
  | [] => 0
  | x :: r => uptoBulkEntry x + uptoBulkEntries r
def uptoBulkEntry {H : Type} : Lit × DataW H → Nat
  | (.string bytes, d) => bytes.length + uptoBulk d + 1
  | (_, d) => uptoBulk d + 1
 end
def uptoSmall : (H : Type) → List (DataW H) → Bool := fun _ ds => decide (uptoBulkAll ds ≤ 1048576)
def OpenSpec.upto (s : _root_.Go.ChangeSpec) : _root_.Go.OpenSpec := { _root_.Go.OpenSpec.ofChange s with cond := some uptoSmall }

/-- 'laws.FnExactIsCombatTable', WHERE WHAT IT READS IS OF BULK AT MOST 1048576: true; the input reads as it did. -/
def fnExactIsCombatTableUptoRow : OpenClaim := { program := "ytncllndlbeghjaa", sum := "77a8c243e525e0dba5b18cc3fb41ea0e9e3de4bf48cc7458fd47496263119018", func := "loop.example/g00886/laws.FnExactIsCombatTable", spec := "fnExactIsCombatTable", unfollowed := true, recurses := true, apart := false, narrowed := true }
def FnExactIsCombatTableUptoSaid : Prop := fnExactIsCombatTableUptoRow.holds Try.pinned (OpenSpec.upto fnExactIsCombatTableSpec)

/-- 'laws.FnExactResultAt', WHERE WHAT IT READS IS OF BULK AT MOST 1048576: true; the input reads as it did. -/
def fnExactResultAtUptoRow : OpenClaim := { program := "ytncllndlbeghjaa", sum := "77a8c243e525e0dba5b18cc3fb41ea0e9e3de4bf48cc7458fd47496263119018", func := "loop.example/g00886/laws.FnExactResultAt", spec := "fnExactResultAt", unfollowed := true, recurses := true, apart := false, narrowed := true }
def FnExactResultAtUptoSaid : Prop := fnExactResultAtUptoRow.holds Try.pinned (OpenSpec.upto fnExactResultAtSpec)

/-- 'laws.FnExactColumnFor', WHERE WHAT IT READS IS OF BULK AT MOST 1048576: true; the input reads as it did. -/
def fnExactColumnForUptoRow : OpenClaim := { program := "ytncllndlbeghjaa", sum := "77a8c243e525e0dba5b18cc3fb41ea0e9e3de4bf48cc7458fd47496263119018", func := "loop.example/g00886/laws.FnExactColumnFor", spec := "fnExactColumnFor", unfollowed := true, recurses := true, apart := false, narrowed := true }
def FnExactColumnForUptoSaid : Prop := fnExactColumnForUptoRow.holds Try.pinned (OpenSpec.upto fnExactColumnForSpec)

/-- 'laws.FnExactShiftColumn', WHERE WHAT IT READS IS OF BULK AT MOST 1048576: true; the input reads as it did. -/
def fnExactShiftColumnUptoRow : OpenClaim := { program := "ytncllndlbeghjaa", sum := "77a8c243e525e0dba5b18cc3fb41ea0e9e3de4bf48cc7458fd47496263119018", func := "loop.example/g00886/laws.FnExactShiftColumn", spec := "fnExactShiftColumn", unfollowed := true, recurses := true, apart := false, narrowed := true }
def FnExactShiftColumnUptoSaid : Prop := fnExactShiftColumnUptoRow.holds Try.pinned (OpenSpec.upto fnExactShiftColumnSpec)

/-- 'laws.FnExactIsMonotone', WHERE WHAT IT READS IS OF BULK AT MOST 1048576: true; the input reads as it did. -/
def fnExactIsMonotoneUptoRow : OpenClaim := { program := "ytncllndlbeghjaa", sum := "77a8c243e525e0dba5b18cc3fb41ea0e9e3de4bf48cc7458fd47496263119018", func := "loop.example/g00886/laws.FnExactIsMonotone", spec := "fnExactIsMonotone", unfollowed := true, recurses := true, apart := false, narrowed := true }
def FnExactIsMonotoneUptoSaid : Prop := fnExactIsMonotoneUptoRow.holds Try.pinned (OpenSpec.upto fnExactIsMonotoneSpec)

/-- 'laws.FnExactMeanScore', WHERE WHAT IT READS IS OF BULK AT MOST 1048576: true; the input reads as it did. -/
def fnExactMeanScoreUptoRow : OpenClaim := { program := "ytncllndlbeghjaa", sum := "77a8c243e525e0dba5b18cc3fb41ea0e9e3de4bf48cc7458fd47496263119018", func := "loop.example/g00886/laws.FnExactMeanScore", spec := "fnExactMeanScore", unfollowed := true, recurses := true, apart := false, narrowed := true }
def FnExactMeanScoreUptoSaid : Prop := fnExactMeanScoreUptoRow.holds Try.pinned (OpenSpec.upto fnExactMeanScoreSpec)

/-- 'laws.FnExactCountResults', WHERE WHAT IT READS IS OF BULK AT MOST 1048576: true; the input reads as it did. -/
def fnExactCountResultsUptoRow : OpenClaim := { program := "ytncllndlbeghjaa", sum := "77a8c243e525e0dba5b18cc3fb41ea0e9e3de4bf48cc7458fd47496263119018", func := "loop.example/g00886/laws.FnExactCountResults", spec := "fnExactCountResults", unfollowed := true, recurses := true, apart := false, narrowed := true }
def FnExactCountResultsUptoSaid : Prop := fnExactCountResultsUptoRow.holds Try.pinned (OpenSpec.upto fnExactCountResultsSpec)

/-- 'laws.FnExactIsRules', WHERE WHAT IT READS IS OF BULK AT MOST 1048576: true; the input reads as it did. -/
def fnExactIsRulesUptoRow : OpenClaim := { program := "ytncllndlbeghjaa", sum := "77a8c243e525e0dba5b18cc3fb41ea0e9e3de4bf48cc7458fd47496263119018", func := "loop.example/g00886/laws.FnExactIsRules", spec := "fnExactIsRules", unfollowed := true, recurses := true, apart := false, narrowed := true }
def FnExactIsRulesUptoSaid : Prop := fnExactIsRulesUptoRow.holds Try.pinned (OpenSpec.upto fnExactIsRulesSpec)

/-- 'laws.FnExactKindNamed', WHERE WHAT IT READS IS OF BULK AT MOST 1048576: true; the input reads as it did. -/
def fnExactKindNamedUptoRow : OpenClaim := { program := "ytncllndlbeghjaa", sum := "77a8c243e525e0dba5b18cc3fb41ea0e9e3de4bf48cc7458fd47496263119018", func := "loop.example/g00886/laws.FnExactKindNamed", spec := "fnExactKindNamed", unfollowed := true, recurses := true, apart := false, narrowed := true }
def FnExactKindNamedUptoSaid : Prop := fnExactKindNamedUptoRow.holds Try.pinned (OpenSpec.upto fnExactKindNamedSpec)

/-- 'laws.FnExactTerrainNamed', WHERE WHAT IT READS IS OF BULK AT MOST 1048576: true; the input reads as it did. -/
def fnExactTerrainNamedUptoRow : OpenClaim := { program := "ytncllndlbeghjaa", sum := "77a8c243e525e0dba5b18cc3fb41ea0e9e3de4bf48cc7458fd47496263119018", func := "loop.example/g00886/laws.FnExactTerrainNamed", spec := "fnExactTerrainNamed", unfollowed := true, recurses := true, apart := false, narrowed := true }
def FnExactTerrainNamedUptoSaid : Prop := fnExactTerrainNamedUptoRow.holds Try.pinned (OpenSpec.upto fnExactTerrainNamedSpec)

end Rows
end Go.Proofs.Ytncllndlbeghjaa
