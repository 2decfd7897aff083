/-
  No cell of these rows narrows 'for every input' (looked for: loops, veiled, ifaces, maps, wideKeys, modest, calm, conditions, laid).
  DERIVED. THE GIVEN ROWS OF THIS SEAT. 10 by the template 'for every input the law returns true; each argument reads behind the call as it read before'; 0 by the template 'total and deterministic' (their statements: YtpaikmmncnigkaaTotals.lean).
  GIVEN WITH THE SEED: the statements are not yours to turn. If you find one false, say at which input.
  Laid BY PROGRAM, IN A SANDBOX (cutbox-rows.mjs): the forced cells as the released guide's own fill.sh prints them over the translation f70218377ac990d8… (all of the seat's roots in one cut). By AI agents, Wed Nov 11 2026. No macro, syntax, notation, axiom, sorry.
-/
import Derived.Test.YtpaikmmncnigkaaChecked
import GoSem.Claim
import GoSem.ClaimJoined
import GoSem.ClaimMapViews
import Derived.JoinedTies
import Derived.KernelRfl
namespace Go.Proofs.Ytpaikmmncnigkaa
/- THE CELL 'sum', in the pinned program and in every row, IS THE sha256 OF THE DUMP (.gsa) THAT YtpaikmmncnigkaaProg.lean LOADS. Nothing in Lean hashes anything: it is a label: what it is worth is what the hold of that sum in a sandbox is worth. -/
noncomputable def Try.pinned : Pinned := { name := "ytpaikmmncnigkaa", sum := "f70218377ac990d8c059442c04650ade510fdf5eb044e5832e647ec9df84644e", checked := Try.checked }
namespace Rows
def none {H : Type} : Left H := { results := [], args := [] }

/-- 'laws.FnExactConstants': WHATEVER THE INPUT: true; the input reads as it did. -/
def fnExactConstantsSpec : ChangeSpec := { name := "fnExactConstants", fn := fun _ => fun
  | [] => { results := [.lit (.bool true)], args := [] }
  | _ => none }
def fnExactConstantsRow : OpenClaim := { program := "ytpaikmmncnigkaa", sum := "f70218377ac990d8c059442c04650ade510fdf5eb044e5832e647ec9df84644e", func := "loop.example/g00886/laws.FnExactConstants", spec := "fnExactConstants", apart := false }
def FnExactConstantsSaid : Prop := fnExactConstantsRow.holds Try.pinned (OpenSpec.ofChange fnExactConstantsSpec)

/-- ITS FALSE NEIGHBOUR: 'it returns false'. Refute it at one input. -/
def fnExactConstantsWrong : ChangeSpec := { name := "fnExactConstants", fn := fun _ => fun
  | [] => { results := [.lit (.bool false)], args := [] }
  | _ => none }
def FnExactConstantsWrongFalsely : Prop := fnExactConstantsRow.holds Try.pinned (OpenSpec.ofChange fnExactConstantsWrong)

/-- 'laws.FnExactIsHex': WHATEVER THE INPUT: true; the input reads as it did. -/
def fnExactIsHexSpec : ChangeSpec := { name := "fnExactIsHex", fn := fun _ => fun
  | [d] => { results := [.lit (.bool true)], args := [d] }
  | _ => none }
def fnExactIsHexRow : OpenClaim := { program := "ytpaikmmncnigkaa", sum := "f70218377ac990d8c059442c04650ade510fdf5eb044e5832e647ec9df84644e", func := "loop.example/g00886/laws.FnExactIsHex", spec := "fnExactIsHex", apart := false }
def FnExactIsHexSaid : Prop := fnExactIsHexRow.holds Try.pinned (OpenSpec.ofChange fnExactIsHexSpec)

/-- ITS FALSE NEIGHBOUR: 'it returns false'. Refute it at one input. -/
def fnExactIsHexWrong : ChangeSpec := { name := "fnExactIsHex", fn := fun _ => fun
  | [d] => { results := [.lit (.bool false)], args := [d] }
  | _ => none }
def FnExactIsHexWrongFalsely : Prop := fnExactIsHexRow.holds Try.pinned (OpenSpec.ofChange fnExactIsHexWrong)

/-- 'laws.FnExactFaultName': WHATEVER THE INPUT: true; the input reads as it did. -/
def fnExactFaultNameSpec : ChangeSpec := { name := "fnExactFaultName", fn := fun _ => fun
  | [d] => { results := [.lit (.bool true)], args := [d] }
  | _ => none }
def fnExactFaultNameRow : OpenClaim := { program := "ytpaikmmncnigkaa", sum := "f70218377ac990d8c059442c04650ade510fdf5eb044e5832e647ec9df84644e", func := "loop.example/g00886/laws.FnExactFaultName", spec := "fnExactFaultName", apart := false }
def FnExactFaultNameSaid : Prop := fnExactFaultNameRow.holds Try.pinned (OpenSpec.ofChange fnExactFaultNameSpec)

/-- ITS FALSE NEIGHBOUR: 'it returns false'. Refute it at one input. -/
def fnExactFaultNameWrong : ChangeSpec := { name := "fnExactFaultName", fn := fun _ => fun
  | [d] => { results := [.lit (.bool false)], args := [d] }
  | _ => none }
def FnExactFaultNameWrongFalsely : Prop := fnExactFaultNameRow.holds Try.pinned (OpenSpec.ofChange fnExactFaultNameWrong)

/-- 'laws.FnExactScoreOf': WHATEVER THE INPUT: true; the input reads as it did. -/
def fnExactScoreOfSpec : ChangeSpec := { name := "fnExactScoreOf", fn := fun _ => fun
  | [d] => { results := [.lit (.bool true)], args := [d] }
  | _ => none }
def fnExactScoreOfRow : OpenClaim := { program := "ytpaikmmncnigkaa", sum := "f70218377ac990d8c059442c04650ade510fdf5eb044e5832e647ec9df84644e", func := "loop.example/g00886/laws.FnExactScoreOf", spec := "fnExactScoreOf", apart := false }
def FnExactScoreOfSaid : Prop := fnExactScoreOfRow.holds Try.pinned (OpenSpec.ofChange fnExactScoreOfSpec)

/-- ITS FALSE NEIGHBOUR: 'it returns false'. Refute it at one input. -/
def fnExactScoreOfWrong : ChangeSpec := { name := "fnExactScoreOf", fn := fun _ => fun
  | [d] => { results := [.lit (.bool false)], args := [d] }
  | _ => none }
def FnExactScoreOfWrongFalsely : Prop := fnExactScoreOfRow.holds Try.pinned (OpenSpec.ofChange fnExactScoreOfWrong)

/-- 'laws.FnExactMirrorHex': WHATEVER THE INPUT: true; the input reads as it did. -/
def fnExactMirrorHexSpec : ChangeSpec := { name := "fnExactMirrorHex", fn := fun _ => fun
  | [d1, d2] => { results := [.lit (.bool true)], args := [d1, d2] }
  | _ => none }
def fnExactMirrorHexRow : OpenClaim := { program := "ytpaikmmncnigkaa", sum := "f70218377ac990d8c059442c04650ade510fdf5eb044e5832e647ec9df84644e", func := "loop.example/g00886/laws.FnExactMirrorHex", spec := "fnExactMirrorHex", apart := false }
def FnExactMirrorHexSaid : Prop := fnExactMirrorHexRow.holds Try.pinned (OpenSpec.ofChange fnExactMirrorHexSpec)

/-- ITS FALSE NEIGHBOUR: 'it returns false'. Refute it at one input. -/
def fnExactMirrorHexWrong : ChangeSpec := { name := "fnExactMirrorHex", fn := fun _ => fun
  | [d1, d2] => { results := [.lit (.bool false)], args := [d1, d2] }
  | _ => none }
def FnExactMirrorHexWrongFalsely : Prop := fnExactMirrorHexRow.holds Try.pinned (OpenSpec.ofChange fnExactMirrorHexWrong)

/-- 'laws.FnExactDistanceOf': WHATEVER THE INPUT: true; the input reads as it did. -/
def fnExactDistanceOfSpec : ChangeSpec := { name := "fnExactDistanceOf", fn := fun _ => fun
  | [d1, d2] => { results := [.lit (.bool true)], args := [d1, d2] }
  | _ => none }
def fnExactDistanceOfRow : OpenClaim := { program := "ytpaikmmncnigkaa", sum := "f70218377ac990d8c059442c04650ade510fdf5eb044e5832e647ec9df84644e", func := "loop.example/g00886/laws.FnExactDistanceOf", spec := "fnExactDistanceOf", apart := false }
def FnExactDistanceOfSaid : Prop := fnExactDistanceOfRow.holds Try.pinned (OpenSpec.ofChange fnExactDistanceOfSpec)

/-- ITS FALSE NEIGHBOUR: 'it returns false'. Refute it at one input. -/
def fnExactDistanceOfWrong : ChangeSpec := { name := "fnExactDistanceOf", fn := fun _ => fun
  | [d1, d2] => { results := [.lit (.bool false)], args := [d1, d2] }
  | _ => none }
def FnExactDistanceOfWrongFalsely : Prop := fnExactDistanceOfRow.holds Try.pinned (OpenSpec.ofChange fnExactDistanceOfWrong)

/-- 'laws.FnExactTurnHex': WHATEVER THE INPUT: true; the input reads as it did. -/
def fnExactTurnHexSpec : ChangeSpec := { name := "fnExactTurnHex", fn := fun _ => fun
  | [d1, d2, d3] => { results := [.lit (.bool true)], args := [d1, d2, d3] }
  | _ => none }
def fnExactTurnHexRow : OpenClaim := { program := "ytpaikmmncnigkaa", sum := "f70218377ac990d8c059442c04650ade510fdf5eb044e5832e647ec9df84644e", func := "loop.example/g00886/laws.FnExactTurnHex", spec := "fnExactTurnHex", apart := false }
def FnExactTurnHexSaid : Prop := fnExactTurnHexRow.holds Try.pinned (OpenSpec.ofChange fnExactTurnHexSpec)

/-- ITS FALSE NEIGHBOUR: 'it returns false'. Refute it at one input. -/
def fnExactTurnHexWrong : ChangeSpec := { name := "fnExactTurnHex", fn := fun _ => fun
  | [d1, d2, d3] => { results := [.lit (.bool false)], args := [d1, d2, d3] }
  | _ => none }
def FnExactTurnHexWrongFalsely : Prop := fnExactTurnHexRow.holds Try.pinned (OpenSpec.ofChange fnExactTurnHexWrong)

/-- 'laws.FnExactNearestAlong': WHATEVER THE INPUT: true; the input reads as it did. -/
def fnExactNearestAlongSpec : ChangeSpec := { name := "fnExactNearestAlong", fn := fun _ => fun
  | [d1, d2] => { results := [.lit (.bool true)], args := [d1, d2] }
  | _ => none }
def fnExactNearestAlongRow : OpenClaim := { program := "ytpaikmmncnigkaa", sum := "f70218377ac990d8c059442c04650ade510fdf5eb044e5832e647ec9df84644e", func := "loop.example/g00886/laws.FnExactNearestAlong", spec := "fnExactNearestAlong", apart := false }
def FnExactNearestAlongSaid : Prop := fnExactNearestAlongRow.holds Try.pinned (OpenSpec.ofChange fnExactNearestAlongSpec)

/-- ITS FALSE NEIGHBOUR: 'it returns false'. Refute it at one input. -/
def fnExactNearestAlongWrong : ChangeSpec := { name := "fnExactNearestAlong", fn := fun _ => fun
  | [d1, d2] => { results := [.lit (.bool false)], args := [d1, d2] }
  | _ => none }
def FnExactNearestAlongWrongFalsely : Prop := fnExactNearestAlongRow.holds Try.pinned (OpenSpec.ofChange fnExactNearestAlongWrong)

/-- 'laws.FnExactDiskOf': WHATEVER THE INPUT: true; the input reads as it did. -/
def fnExactDiskOfSpec : ChangeSpec := { name := "fnExactDiskOf", fn := fun _ => fun
  | [d1, d2] => { results := [.lit (.bool true)], args := [d1, d2] }
  | _ => none }
def fnExactDiskOfRow : OpenClaim := { program := "ytpaikmmncnigkaa", sum := "f70218377ac990d8c059442c04650ade510fdf5eb044e5832e647ec9df84644e", func := "loop.example/g00886/laws.FnExactDiskOf", spec := "fnExactDiskOf", apart := false }
def FnExactDiskOfSaid : Prop := fnExactDiskOfRow.holds Try.pinned (OpenSpec.ofChange fnExactDiskOfSpec)

/-- ITS FALSE NEIGHBOUR: 'it returns false'. Refute it at one input. -/
def fnExactDiskOfWrong : ChangeSpec := { name := "fnExactDiskOf", fn := fun _ => fun
  | [d1, d2] => { results := [.lit (.bool false)], args := [d1, d2] }
  | _ => none }
def FnExactDiskOfWrongFalsely : Prop := fnExactDiskOfRow.holds Try.pinned (OpenSpec.ofChange fnExactDiskOfWrong)

/-- 'laws.FnExactLineOf': WHATEVER THE INPUT: true; the input reads as it did. -/
def fnExactLineOfSpec : ChangeSpec := { name := "fnExactLineOf", fn := fun _ => fun
  | [d1, d2] => { results := [.lit (.bool true)], args := [d1, d2] }
  | _ => none }
def fnExactLineOfRow : OpenClaim := { program := "ytpaikmmncnigkaa", sum := "f70218377ac990d8c059442c04650ade510fdf5eb044e5832e647ec9df84644e", func := "loop.example/g00886/laws.FnExactLineOf", spec := "fnExactLineOf", apart := false }
def FnExactLineOfSaid : Prop := fnExactLineOfRow.holds Try.pinned (OpenSpec.ofChange fnExactLineOfSpec)

/-- ITS FALSE NEIGHBOUR: 'it returns false'. Refute it at one input. -/
def fnExactLineOfWrong : ChangeSpec := { name := "fnExactLineOf", fn := fun _ => fun
  | [d1, d2] => { results := [.lit (.bool false)], args := [d1, d2] }
  | _ => none }
def FnExactLineOfWrongFalsely : Prop := fnExactLineOfRow.holds Try.pinned (OpenSpec.ofChange fnExactLineOfWrong)

/- THE SECOND FORM. 'bulk': how many values and letters a reading holds, each counted each time it is reached (what is shared counts as often as it is met; a slice's spare places count too). A statement '..UptoSaid' is the law's where the arguments, and the package variables that the reading takes, are together of bulk at most 1048576: NARROWER than '..Said'. Prove '..Said' where nothing that the law and all that it calls make is longer than what came in: it says more and counts as full. Else prove '..UptoSaid'. A law counts once. -/
mutual
def uptoBulk {H : Type} : DataW H → Nat
  | .lit (.string bytes) => bytes.length + 1
  | .lit _ => 1
  | .nil => 1
  | .ptr d => uptoBulk d + 1
  | .slice elems spare => uptoBulkAll elems + uptoBulkAll spare + 1
  | .agg parts => uptoBulkAll parts + 1
  | .iface _ d => uptoBulk d + 1
  | .map entries => uptoBulkEntries entries + 1
  | .held _ => 1
def uptoBulkAll {H : Type} : List (DataW H) → Nat
  | [] => 0
  | d :: r => uptoBulk d + uptoBulkAll r
def uptoBulkEntries {H : Type} : List (Lit × DataW H) → Nat
  | [] => 0
  | x :: r => uptoBulkEntry x + uptoBulkEntries r
def uptoBulkEntry {H : Type} : Lit × DataW H → Nat
  | (.string bytes, d) => bytes.length + uptoBulk d + 1
  | (_, d) => uptoBulk d + 1
 end
def uptoSmall : (H : Type) → List (DataW H) → Bool := fun _ ds => decide (uptoBulkAll ds ≤ 1048576)
def OpenSpec.upto (s : _root_.Go.ChangeSpec) : _root_.Go.OpenSpec := { _root_.Go.OpenSpec.ofChange s with cond := some uptoSmall }

/-- 'laws.FnExactConstants', WHERE WHAT IT READS IS OF BULK AT MOST 1048576: true; the input reads as it did. -/
def fnExactConstantsUptoRow : OpenClaim := { program := "ytpaikmmncnigkaa", sum := "f70218377ac990d8c059442c04650ade510fdf5eb044e5832e647ec9df84644e", func := "loop.example/g00886/laws.FnExactConstants", spec := "fnExactConstants", apart := false, narrowed := true }
def FnExactConstantsUptoSaid : Prop := fnExactConstantsUptoRow.holds Try.pinned (OpenSpec.upto fnExactConstantsSpec)

/-- 'laws.FnExactIsHex', WHERE WHAT IT READS IS OF BULK AT MOST 1048576: true; the input reads as it did. -/
def fnExactIsHexUptoRow : OpenClaim := { program := "ytpaikmmncnigkaa", sum := "f70218377ac990d8c059442c04650ade510fdf5eb044e5832e647ec9df84644e", func := "loop.example/g00886/laws.FnExactIsHex", spec := "fnExactIsHex", apart := false, narrowed := true }
def FnExactIsHexUptoSaid : Prop := fnExactIsHexUptoRow.holds Try.pinned (OpenSpec.upto fnExactIsHexSpec)

/-- 'laws.FnExactFaultName', WHERE WHAT IT READS IS OF BULK AT MOST 1048576: true; the input reads as it did. -/
def fnExactFaultNameUptoRow : OpenClaim := { program := "ytpaikmmncnigkaa", sum := "f70218377ac990d8c059442c04650ade510fdf5eb044e5832e647ec9df84644e", func := "loop.example/g00886/laws.FnExactFaultName", spec := "fnExactFaultName", apart := false, narrowed := true }
def FnExactFaultNameUptoSaid : Prop := fnExactFaultNameUptoRow.holds Try.pinned (OpenSpec.upto fnExactFaultNameSpec)

/-- 'laws.FnExactScoreOf', WHERE WHAT IT READS IS OF BULK AT MOST 1048576: true; the input reads as it did. -/
def fnExactScoreOfUptoRow : OpenClaim := { program := "ytpaikmmncnigkaa", sum := "f70218377ac990d8c059442c04650ade510fdf5eb044e5832e647ec9df84644e", func := "loop.example/g00886/laws.FnExactScoreOf", spec := "fnExactScoreOf", apart := false, narrowed := true }
def FnExactScoreOfUptoSaid : Prop := fnExactScoreOfUptoRow.holds Try.pinned (OpenSpec.upto fnExactScoreOfSpec)

/-- 'laws.FnExactMirrorHex', WHERE WHAT IT READS IS OF BULK AT MOST 1048576: true; the input reads as it did. -/
def fnExactMirrorHexUptoRow : OpenClaim := { program := "ytpaikmmncnigkaa", sum := "f70218377ac990d8c059442c04650ade510fdf5eb044e5832e647ec9df84644e", func := "loop.example/g00886/laws.FnExactMirrorHex", spec := "fnExactMirrorHex", apart := false, narrowed := true }
def FnExactMirrorHexUptoSaid : Prop := fnExactMirrorHexUptoRow.holds Try.pinned (OpenSpec.upto fnExactMirrorHexSpec)

/-- 'laws.FnExactDistanceOf', WHERE WHAT IT READS IS OF BULK AT MOST 1048576: true; the input reads as it did. -/
def fnExactDistanceOfUptoRow : OpenClaim := { program := "ytpaikmmncnigkaa", sum := "f70218377ac990d8c059442c04650ade510fdf5eb044e5832e647ec9df84644e", func := "loop.example/g00886/laws.FnExactDistanceOf", spec := "fnExactDistanceOf", apart := false, narrowed := true }
def FnExactDistanceOfUptoSaid : Prop := fnExactDistanceOfUptoRow.holds Try.pinned (OpenSpec.upto fnExactDistanceOfSpec)

/-- 'laws.FnExactTurnHex', WHERE WHAT IT READS IS OF BULK AT MOST 1048576: true; the input reads as it did. -/
def fnExactTurnHexUptoRow : OpenClaim := { program := "ytpaikmmncnigkaa", sum := "f70218377ac990d8c059442c04650ade510fdf5eb044e5832e647ec9df84644e", func := "loop.example/g00886/laws.FnExactTurnHex", spec := "fnExactTurnHex", apart := false, narrowed := true }
def FnExactTurnHexUptoSaid : Prop := fnExactTurnHexUptoRow.holds Try.pinned (OpenSpec.upto fnExactTurnHexSpec)

/-- 'laws.FnExactNearestAlong', WHERE WHAT IT READS IS OF BULK AT MOST 1048576: true; the input reads as it did. -/
def fnExactNearestAlongUptoRow : OpenClaim := { program := "ytpaikmmncnigkaa", sum := "f70218377ac990d8c059442c04650ade510fdf5eb044e5832e647ec9df84644e", func := "loop.example/g00886/laws.FnExactNearestAlong", spec := "fnExactNearestAlong", apart := false, narrowed := true }
def FnExactNearestAlongUptoSaid : Prop := fnExactNearestAlongUptoRow.holds Try.pinned (OpenSpec.upto fnExactNearestAlongSpec)

/-- 'laws.FnExactDiskOf', WHERE WHAT IT READS IS OF BULK AT MOST 1048576: true; the input reads as it did. -/
def fnExactDiskOfUptoRow : OpenClaim := { program := "ytpaikmmncnigkaa", sum := "f70218377ac990d8c059442c04650ade510fdf5eb044e5832e647ec9df84644e", func := "loop.example/g00886/laws.FnExactDiskOf", spec := "fnExactDiskOf", apart := false, narrowed := true }
def FnExactDiskOfUptoSaid : Prop := fnExactDiskOfUptoRow.holds Try.pinned (OpenSpec.upto fnExactDiskOfSpec)

/-- 'laws.FnExactLineOf', WHERE WHAT IT READS IS OF BULK AT MOST 1048576: true; the input reads as it did. -/
def fnExactLineOfUptoRow : OpenClaim := { program := "ytpaikmmncnigkaa", sum := "f70218377ac990d8c059442c04650ade510fdf5eb044e5832e647ec9df84644e", func := "loop.example/g00886/laws.FnExactLineOf", spec := "fnExactLineOf", apart := false, narrowed := true }
def FnExactLineOfUptoSaid : Prop := fnExactLineOfUptoRow.holds Try.pinned (OpenSpec.upto fnExactLineOfSpec)

end Rows
end Go.Proofs.Ytpaikmmncnigkaa
