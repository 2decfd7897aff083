/-
  NARROWER THAN 'FOR EVERY INPUT', by the rows' own cells (each row's printed sentence says how): FnExactDirectionTo: laid · FnExactNeighbourOf: laid · FnExactRingOf: laid · FnExactWalkFrom: laid.
  DERIVED. THE GIVEN ROWS OF THIS SEAT. 4 by the template 'for every input the law returns true; each argument reads behind the call as it read before'; 0 by the template 'total and deterministic' (their statements: YtpaikmmncnigkaaDoorTotals.lean).
  GIVEN WITH THE SEED: the statements are not yours to turn. If you find one false, say at which input.
  Laid BY PROGRAM, IN A SANDBOX (cutbox-rows.mjs): the forced cells as the released guide's own fill.sh prints them over the translation 14f7ea7575d5ad48… (all of the seat's roots in one cut). By AI agents, Wed Nov 11 2026. No macro, syntax, notation, axiom, sorry.
-/
import Derived.Test.YtpaikmmncnigkaaDoorChecked
import GoSem.Claim
import GoSem.ClaimJoined
import GoSem.ClaimMapViews
import Derived.JoinedTies
import Derived.KernelRfl
namespace Go.Proofs.YtpaikmmncnigkaaDoor
/- THE CELL 'sum', in the pinned program and in every row, IS THE sha256 OF THE DUMP (.gsa) THAT YtpaikmmncnigkaaDoorProg.lean LOADS. Nothing in Lean hashes anything: it is a label: what it is worth is what the hold of that sum in a sandbox is worth. -/
noncomputable def Tryd.pinned : Pinned := { name := "ytpaikmmncnigkaadoor", sum := "14f7ea7575d5ad48ada7a9f0c42f6ae0fe2e8ad11ddbc12003632ce5661112e0", checked := Tryd.checked }
namespace Rows
def none {H : Type} : Left H := { results := [], args := [] }

/- WHAT THE LISTED PACKAGE-LEVEL VARIABLES READ AS WHEN THE CALL BEGINS. Each datum BY PROGRAM (the guide's laid-datum.mjs) off the statement by which the dump's own 'gosem.cut.vars' lays the variable. In a bare row this is a premise. The card (YtpaikmmncnigkaaDoorCards.lean) ties it to the program's text. -/
def laid_loop_example_g00886_impl_directions {H : Type} : DataW H := .agg [.agg [.lit (.int .i64 1), .lit (.int .i64 0)], .agg [.lit (.int .i64 1), .lit (.int .i64 (-1))], .agg [.lit (.int .i64 0), .lit (.int .i64 (-1))], .agg [.lit (.int .i64 (-1)), .lit (.int .i64 0)], .agg [.lit (.int .i64 (-1)), .lit (.int .i64 1)], .agg [.lit (.int .i64 0), .lit (.int .i64 1)]]

/-- 'laws.FnExactDirectionTo': WHATEVER THE INPUT: true; the input reads as it did. -/
def fnExactDirectionToSpec : ChangeSpec := { name := "fnExactDirectionTo", vars := ["loop.example/g00886/impl.directions"], fn := fun _ => fun
  | [d1, d2, g1] => { results := [.lit (.bool true)], args := [d1, d2], vars := [g1] }
  | _ => none }
def fnExactDirectionToRow : OpenClaim := { program := "ytpaikmmncnigkaadoor", sum := "14f7ea7575d5ad48ada7a9f0c42f6ae0fe2e8ad11ddbc12003632ce5661112e0", func := "loop.example/g00886/laws.FnExactDirectionTo", spec := "fnExactDirectionTo", named := ["loop.example/g00886/impl.directions"], apart := false, laid := [("loop.example/g00886/impl.directions", laid_loop_example_g00886_impl_directions)] }
def FnExactDirectionToSaid : Prop := fnExactDirectionToRow.holds Tryd.pinned (OpenSpec.ofChange fnExactDirectionToSpec)

/-- ITS FALSE NEIGHBOUR: 'it returns false'. Refute it at one input. -/
def fnExactDirectionToWrong : ChangeSpec := { name := "fnExactDirectionTo", vars := ["loop.example/g00886/impl.directions"], fn := fun _ => fun
  | [d1, d2, g1] => { results := [.lit (.bool false)], args := [d1, d2], vars := [g1] }
  | _ => none }
def FnExactDirectionToWrongFalsely : Prop := fnExactDirectionToRow.holds Tryd.pinned (OpenSpec.ofChange fnExactDirectionToWrong)

/-- 'laws.FnExactNeighbourOf': WHATEVER THE INPUT: true; the input reads as it did. -/
def fnExactNeighbourOfSpec : ChangeSpec := { name := "fnExactNeighbourOf", vars := ["loop.example/g00886/impl.directions"], fn := fun _ => fun
  | [d1, d2, g1] => { results := [.lit (.bool true)], args := [d1, d2], vars := [g1] }
  | _ => none }
def fnExactNeighbourOfRow : OpenClaim := { program := "ytpaikmmncnigkaadoor", sum := "14f7ea7575d5ad48ada7a9f0c42f6ae0fe2e8ad11ddbc12003632ce5661112e0", func := "loop.example/g00886/laws.FnExactNeighbourOf", spec := "fnExactNeighbourOf", named := ["loop.example/g00886/impl.directions"], apart := false, laid := [("loop.example/g00886/impl.directions", laid_loop_example_g00886_impl_directions)] }
def FnExactNeighbourOfSaid : Prop := fnExactNeighbourOfRow.holds Tryd.pinned (OpenSpec.ofChange fnExactNeighbourOfSpec)

/-- ITS FALSE NEIGHBOUR: 'it returns false'. Refute it at one input. -/
def fnExactNeighbourOfWrong : ChangeSpec := { name := "fnExactNeighbourOf", vars := ["loop.example/g00886/impl.directions"], fn := fun _ => fun
  | [d1, d2, g1] => { results := [.lit (.bool false)], args := [d1, d2], vars := [g1] }
  | _ => none }
def FnExactNeighbourOfWrongFalsely : Prop := fnExactNeighbourOfRow.holds Tryd.pinned (OpenSpec.ofChange fnExactNeighbourOfWrong)

/-- 'laws.FnExactRingOf': WHATEVER THE INPUT: true; the input reads as it did. -/
def fnExactRingOfSpec : ChangeSpec := { name := "fnExactRingOf", vars := ["loop.example/g00886/impl.directions"], fn := fun _ => fun
  | [d1, d2, g1] => { results := [.lit (.bool true)], args := [d1, d2], vars := [g1] }
  | _ => none }
def fnExactRingOfRow : OpenClaim := { program := "ytpaikmmncnigkaadoor", sum := "14f7ea7575d5ad48ada7a9f0c42f6ae0fe2e8ad11ddbc12003632ce5661112e0", func := "loop.example/g00886/laws.FnExactRingOf", spec := "fnExactRingOf", named := ["loop.example/g00886/impl.directions"], apart := false, laid := [("loop.example/g00886/impl.directions", laid_loop_example_g00886_impl_directions)] }
def FnExactRingOfSaid : Prop := fnExactRingOfRow.holds Tryd.pinned (OpenSpec.ofChange fnExactRingOfSpec)

/-- ITS FALSE NEIGHBOUR: 'it returns false'. Refute it at one input. -/
def fnExactRingOfWrong : ChangeSpec := { name := "fnExactRingOf", vars := ["loop.example/g00886/impl.directions"], fn := fun _ => fun
  | [d1, d2, g1] => { results := [.lit (.bool false)], args := [d1, d2], vars := [g1] }
  | _ => none }
def FnExactRingOfWrongFalsely : Prop := fnExactRingOfRow.holds Tryd.pinned (OpenSpec.ofChange fnExactRingOfWrong)

/-- 'laws.FnExactWalkFrom': WHATEVER THE INPUT: true; the input reads as it did. -/
def fnExactWalkFromSpec : ChangeSpec := { name := "fnExactWalkFrom", vars := ["loop.example/g00886/impl.directions"], fn := fun _ => fun
  | [d1, d2, g1] => { results := [.lit (.bool true)], args := [d1, d2], vars := [g1] }
  | _ => none }
def fnExactWalkFromRow : OpenClaim := { program := "ytpaikmmncnigkaadoor", sum := "14f7ea7575d5ad48ada7a9f0c42f6ae0fe2e8ad11ddbc12003632ce5661112e0", func := "loop.example/g00886/laws.FnExactWalkFrom", spec := "fnExactWalkFrom", named := ["loop.example/g00886/impl.directions"], apart := false, laid := [("loop.example/g00886/impl.directions", laid_loop_example_g00886_impl_directions)] }
def FnExactWalkFromSaid : Prop := fnExactWalkFromRow.holds Tryd.pinned (OpenSpec.ofChange fnExactWalkFromSpec)

/-- ITS FALSE NEIGHBOUR: 'it returns false'. Refute it at one input. -/
def fnExactWalkFromWrong : ChangeSpec := { name := "fnExactWalkFrom", vars := ["loop.example/g00886/impl.directions"], fn := fun _ => fun
  | [d1, d2, g1] => { results := [.lit (.bool false)], args := [d1, d2], vars := [g1] }
  | _ => none }
def FnExactWalkFromWrongFalsely : Prop := fnExactWalkFromRow.holds Tryd.pinned (OpenSpec.ofChange fnExactWalkFromWrong)

/- THE SECOND FORM. 'bulk': how many values and letters a reading holds, each counted each time it is reached (what is shared counts as often as it is met; a slice's spare places count too). A statement '..UptoSaid' is the law's where the arguments, and the package variables that the reading takes, are together of bulk at most 1048576: NARROWER than '..Said'. Prove '..Said' where nothing that the law and all that it calls make is longer than what came in: it says more and counts as full. Else prove '..UptoSaid'. A law counts once. -/
mutual
def uptoBulk {H : Type} : DataW H → Nat
  | .lit (.string bytes) => bytes.length + 1
  | .lit _ => 1
  | .nil => 1
  | .ptr d => uptoBulk d + 1
  | .slice elems spare => uptoBulkAll elems + uptoBulkAll spare + 1
  | .agg parts => uptoBulkAll parts + 1
  | .iface _ d => uptoBulk d + 1
  | .map entries => uptoBulkEntries entries + 1
  | .held _ => 1
def uptoBulkAll {H : Type} : List (DataW H) → Nat
  | [] => 0
  | d :: r => uptoBulk d + uptoBulkAll r
def uptoBulkEntries {H : Type} : List (Lit × DataW H) → Nat
  | [] => 0
  | x :: r => uptoBulkEntry x + uptoBulkEntries r
def uptoBulkEntry {H : Type} : Lit × DataW H → Nat
  | (.string bytes, d) => bytes.length + uptoBulk d + 1
  | (_, d) => uptoBulk d + 1
 end
def uptoSmall : (H : Type) → List (DataW H) → Bool := fun _ ds => decide (uptoBulkAll ds ≤ 1048576)
def OpenSpec.upto (s : _root_.Go.ChangeSpec) : _root_.Go.OpenSpec := { _root_.Go.OpenSpec.ofChange s with cond := some uptoSmall }

/-- 'laws.FnExactDirectionTo', WHERE WHAT IT READS IS OF BULK AT MOST 1048576: true; the input reads as it did. -/
def fnExactDirectionToUptoRow : OpenClaim := { program := "ytpaikmmncnigkaadoor", sum := "14f7ea7575d5ad48ada7a9f0c42f6ae0fe2e8ad11ddbc12003632ce5661112e0", func := "loop.example/g00886/laws.FnExactDirectionTo", spec := "fnExactDirectionTo", named := ["loop.example/g00886/impl.directions"], apart := false, laid := [("loop.example/g00886/impl.directions", laid_loop_example_g00886_impl_directions)], narrowed := true }
def FnExactDirectionToUptoSaid : Prop := fnExactDirectionToUptoRow.holds Tryd.pinned (OpenSpec.upto fnExactDirectionToSpec)

/-- 'laws.FnExactNeighbourOf', WHERE WHAT IT READS IS OF BULK AT MOST 1048576: true; the input reads as it did. -/
def fnExactNeighbourOfUptoRow : OpenClaim := { program := "ytpaikmmncnigkaadoor", sum := "14f7ea7575d5ad48ada7a9f0c42f6ae0fe2e8ad11ddbc12003632ce5661112e0", func := "loop.example/g00886/laws.FnExactNeighbourOf", spec := "fnExactNeighbourOf", named := ["loop.example/g00886/impl.directions"], apart := false, laid := [("loop.example/g00886/impl.directions", laid_loop_example_g00886_impl_directions)], narrowed := true }
def FnExactNeighbourOfUptoSaid : Prop := fnExactNeighbourOfUptoRow.holds Tryd.pinned (OpenSpec.upto fnExactNeighbourOfSpec)

/-- 'laws.FnExactRingOf', WHERE WHAT IT READS IS OF BULK AT MOST 1048576: true; the input reads as it did. -/
def fnExactRingOfUptoRow : OpenClaim := { program := "ytpaikmmncnigkaadoor", sum := "14f7ea7575d5ad48ada7a9f0c42f6ae0fe2e8ad11ddbc12003632ce5661112e0", func := "loop.example/g00886/laws.FnExactRingOf", spec := "fnExactRingOf", named := ["loop.example/g00886/impl.directions"], apart := false, laid := [("loop.example/g00886/impl.directions", laid_loop_example_g00886_impl_directions)], narrowed := true }
def FnExactRingOfUptoSaid : Prop := fnExactRingOfUptoRow.holds Tryd.pinned (OpenSpec.upto fnExactRingOfSpec)

/-- 'laws.FnExactWalkFrom', WHERE WHAT IT READS IS OF BULK AT MOST 1048576: true; the input reads as it did. -/
def fnExactWalkFromUptoRow : OpenClaim := { program := "ytpaikmmncnigkaadoor", sum := "14f7ea7575d5ad48ada7a9f0c42f6ae0fe2e8ad11ddbc12003632ce5661112e0", func := "loop.example/g00886/laws.FnExactWalkFrom", spec := "fnExactWalkFrom", named := ["loop.example/g00886/impl.directions"], apart := false, laid := [("loop.example/g00886/impl.directions", laid_loop_example_g00886_impl_directions)], narrowed := true }
def FnExactWalkFromUptoSaid : Prop := fnExactWalkFromUptoRow.holds Tryd.pinned (OpenSpec.upto fnExactWalkFromSpec)

end Rows
end Go.Proofs.YtpaikmmncnigkaaDoor
