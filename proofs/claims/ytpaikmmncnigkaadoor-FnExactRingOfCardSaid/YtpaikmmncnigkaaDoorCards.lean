/-
  DERIVED. GIVEN WITH THE SEED: THE CARDS: each row of YtpaikmmncnigkaaDoorRows.lean that lists a variable, with what it lists TIED to the program's text (the seventh form; the later family's looks); each row that meets fmt, with fmt's text TOLD by the authors' own Lean function (tested against real Go, not proved from fmt's source: count such statements apart). THE CARD IS WHAT COUNTS. Prove the row's statement (the work); the ties are given (YtpaikmmncnigkaaDoorTie.lean); close each card by the builder's one call (the guide's Derived/Test/ToyasCard.lean, 'card_holds'). Laid BY PROGRAM, IN A SANDBOX (cutbox-door.mjs). By AI agents, Wed Nov 11 2026. No macro, syntax, notation, axiom, sorry.
-/
import Derived.Test.YtpaikmmncnigkaaDoorRows
import GoSem.ClaimSeven
namespace Go.Proofs.YtpaikmmncnigkaaDoor
namespace Rows

/-- THE TIED CARD OF 'laws.FnExactDirectionTo'. -/
def fnExactDirectionToCard : Claim7 := { stood := { row := fnExactDirectionToRow, standIns := [], harness := (true, "15578c4ba0b46b16957387d7b8a668bdb07a9119101633217dcd0d5af8ffc1ae"), looks := false }, kinds := [], alts := [], laidByText := true, laidKinds := [.data], laidTests := true, laidLooks := .later }
def FnExactDirectionToCardSaid : Prop := Claim7.holds Tryd.pinned (.plain (OpenSpec.ofChange fnExactDirectionToSpec)) fnExactDirectionToCard

/-- THE TIED CARD OF 'laws.FnExactNeighbourOf'. -/
def fnExactNeighbourOfCard : Claim7 := { stood := { row := fnExactNeighbourOfRow, standIns := [], harness := (true, "15578c4ba0b46b16957387d7b8a668bdb07a9119101633217dcd0d5af8ffc1ae"), looks := false }, kinds := [], alts := [], laidByText := true, laidKinds := [.data], laidTests := true, laidLooks := .later }
def FnExactNeighbourOfCardSaid : Prop := Claim7.holds Tryd.pinned (.plain (OpenSpec.ofChange fnExactNeighbourOfSpec)) fnExactNeighbourOfCard

/-- THE TIED CARD OF 'laws.FnExactRingOf'. -/
def fnExactRingOfCard : Claim7 := { stood := { row := fnExactRingOfRow, standIns := [], harness := (true, "15578c4ba0b46b16957387d7b8a668bdb07a9119101633217dcd0d5af8ffc1ae"), looks := false }, kinds := [], alts := [], laidByText := true, laidKinds := [.data], laidTests := true, laidLooks := .later }
def FnExactRingOfCardSaid : Prop := Claim7.holds Tryd.pinned (.plain (OpenSpec.ofChange fnExactRingOfSpec)) fnExactRingOfCard

/-- THE TIED CARD OF 'laws.FnExactWalkFrom'. -/
def fnExactWalkFromCard : Claim7 := { stood := { row := fnExactWalkFromRow, standIns := [], harness := (true, "15578c4ba0b46b16957387d7b8a668bdb07a9119101633217dcd0d5af8ffc1ae"), looks := false }, kinds := [], alts := [], laidByText := true, laidKinds := [.data], laidTests := true, laidLooks := .later }
def FnExactWalkFromCardSaid : Prop := Claim7.holds Tryd.pinned (.plain (OpenSpec.ofChange fnExactWalkFromSpec)) fnExactWalkFromCard

/-- THE SECOND FORM's CARD OF 'laws.FnExactDirectionTo'. -/
def fnExactDirectionToUptoCard : Claim7 := { stood := { row := fnExactDirectionToUptoRow, standIns := [], harness := (true, "15578c4ba0b46b16957387d7b8a668bdb07a9119101633217dcd0d5af8ffc1ae"), looks := false }, kinds := [], alts := [], laidByText := true, laidKinds := [.data], laidTests := true, laidLooks := .later }
def FnExactDirectionToUptoCardSaid : Prop := Claim7.holds Tryd.pinned (.plain (OpenSpec.upto fnExactDirectionToSpec)) fnExactDirectionToUptoCard

/-- THE SECOND FORM's CARD OF 'laws.FnExactNeighbourOf'. -/
def fnExactNeighbourOfUptoCard : Claim7 := { stood := { row := fnExactNeighbourOfUptoRow, standIns := [], harness := (true, "15578c4ba0b46b16957387d7b8a668bdb07a9119101633217dcd0d5af8ffc1ae"), looks := false }, kinds := [], alts := [], laidByText := true, laidKinds := [.data], laidTests := true, laidLooks := .later }
def FnExactNeighbourOfUptoCardSaid : Prop := Claim7.holds Tryd.pinned (.plain (OpenSpec.upto fnExactNeighbourOfSpec)) fnExactNeighbourOfUptoCard

/-- THE SECOND FORM's CARD OF 'laws.FnExactRingOf'. -/
def fnExactRingOfUptoCard : Claim7 := { stood := { row := fnExactRingOfUptoRow, standIns := [], harness := (true, "15578c4ba0b46b16957387d7b8a668bdb07a9119101633217dcd0d5af8ffc1ae"), looks := false }, kinds := [], alts := [], laidByText := true, laidKinds := [.data], laidTests := true, laidLooks := .later }
def FnExactRingOfUptoCardSaid : Prop := Claim7.holds Tryd.pinned (.plain (OpenSpec.upto fnExactRingOfSpec)) fnExactRingOfUptoCard

/-- THE SECOND FORM's CARD OF 'laws.FnExactWalkFrom'. -/
def fnExactWalkFromUptoCard : Claim7 := { stood := { row := fnExactWalkFromUptoRow, standIns := [], harness := (true, "15578c4ba0b46b16957387d7b8a668bdb07a9119101633217dcd0d5af8ffc1ae"), looks := false }, kinds := [], alts := [], laidByText := true, laidKinds := [.data], laidTests := true, laidLooks := .later }
def FnExactWalkFromUptoCardSaid : Prop := Claim7.holds Tryd.pinned (.plain (OpenSpec.upto fnExactWalkFromSpec)) fnExactWalkFromUptoCard
end Rows
end Go.Proofs.YtpaikmmncnigkaaDoor
