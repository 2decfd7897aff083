/-
  DERIVED. GIVEN WITH THE SEED: THE CARDS: each row of YtbfbeaghmlkjkaaGreatDoorRows.lean that lists a variable, with what it lists TIED to the program's text (the seventh form; the later family's looks); each row that meets fmt, with fmt's text TOLD by the authors' own Lean function (tested against real Go, not proved from fmt's source: count such statements apart). THE CARD IS WHAT COUNTS. Prove the row's statement (the work); the ties are given (YtbfbeaghmlkjkaaGreatDoorTie.lean); close each card by the builder's one call (the guide's Derived/Test/ToyasCard.lean, 'card_holds'). Laid BY PROGRAM, IN A SANDBOX (cutbox-door.mjs). By AI agents, Wed Nov 11 2026. No macro, syntax, notation, axiom, sorry.
-/
import Derived.Test.YtbfbeaghmlkjkaaGreatDoorRows
import GoSem.ClaimSeven
namespace Go.Proofs.YtbfbeaghmlkjkaaGreatDoor
namespace Rows

/-- THE TIED CARD OF 'laws.FnExactMirrorBoard'. -/
def fnExactMirrorBoardCard : Claim7 := { stood := { row := fnExactMirrorBoardRow, standIns := [], harness := (true, "41f441fa10714257f504592b8a05cbf3e291b50f16035b2a50d3ab71126140ba"), looks := false }, kinds := [], alts := [], laidByText := true, laidKinds := [.data], laidTests := true, laidLooks := .later }
def FnExactMirrorBoardCardSaid : Prop := Claim7.holds Tryz.pinned (.plain (OpenSpec.ofChange fnExactMirrorBoardSpec)) fnExactMirrorBoardCard

/-- THE TIED CARD OF 'laws.FnExactBoardText'. -/
def fnExactBoardTextCard : Claim7 := { stood := { row := fnExactBoardTextRow, standIns := [], harness := (true, "41f441fa10714257f504592b8a05cbf3e291b50f16035b2a50d3ab71126140ba"), looks := false }, kinds := [], alts := [], laidByText := true, laidKinds := [.data, .data, .data, .data, .widerDeep], laidTests := true, laidLooks := .later }
def FnExactBoardTextCardSaid : Prop := Claim7.holds Tryz.pinned (.plain (OpenSpec.ofChange fnExactBoardTextSpec)) fnExactBoardTextCard

/-- THE TIED CARD OF 'laws.FnExactSameRegion'. -/
def fnExactSameRegionCard : Claim7 := { stood := { row := fnExactSameRegionRow, standIns := [], harness := (true, "41f441fa10714257f504592b8a05cbf3e291b50f16035b2a50d3ab71126140ba"), looks := false }, kinds := [], alts := [], laidByText := true, laidKinds := [.data], laidTests := true, laidLooks := .later }
def FnExactSameRegionCardSaid : Prop := Claim7.holds Tryz.pinned (.plain (OpenSpec.ofChange fnExactSameRegionSpec)) fnExactSameRegionCard

/-- THE TIED CARD OF 'laws.FnExactRegionsOf'. -/
def fnExactRegionsOfCard : Claim7 := { stood := { row := fnExactRegionsOfRow, standIns := [], harness := (true, "41f441fa10714257f504592b8a05cbf3e291b50f16035b2a50d3ab71126140ba"), looks := false }, kinds := [], alts := [], laidByText := true, laidKinds := [.data], laidTests := true, laidLooks := .later }
def FnExactRegionsOfCardSaid : Prop := Claim7.holds Tryz.pinned (.plain (OpenSpec.ofChange fnExactRegionsOfSpec)) fnExactRegionsOfCard

/-- THE SECOND FORM's CARD OF 'laws.FnExactMirrorBoard'. -/
def fnExactMirrorBoardUptoCard : Claim7 := { stood := { row := fnExactMirrorBoardUptoRow, standIns := [], harness := (true, "41f441fa10714257f504592b8a05cbf3e291b50f16035b2a50d3ab71126140ba"), looks := false }, kinds := [], alts := [], laidByText := true, laidKinds := [.data], laidTests := true, laidLooks := .later }
def FnExactMirrorBoardUptoCardSaid : Prop := Claim7.holds Tryz.pinned (.plain (OpenSpec.upto fnExactMirrorBoardSpec)) fnExactMirrorBoardUptoCard

/-- THE SECOND FORM's CARD OF 'laws.FnExactBoardText'. -/
def fnExactBoardTextUptoCard : Claim7 := { stood := { row := fnExactBoardTextUptoRow, standIns := [], harness := (true, "41f441fa10714257f504592b8a05cbf3e291b50f16035b2a50d3ab71126140ba"), looks := false }, kinds := [], alts := [], laidByText := true, laidKinds := [.data, .data, .data, .data, .widerDeep], laidTests := true, laidLooks := .later }
def FnExactBoardTextUptoCardSaid : Prop := Claim7.holds Tryz.pinned (.plain (OpenSpec.upto fnExactBoardTextSpec)) fnExactBoardTextUptoCard

/-- THE SECOND FORM's CARD OF 'laws.FnExactSameRegion'. -/
def fnExactSameRegionUptoCard : Claim7 := { stood := { row := fnExactSameRegionUptoRow, standIns := [], harness := (true, "41f441fa10714257f504592b8a05cbf3e291b50f16035b2a50d3ab71126140ba"), looks := false }, kinds := [], alts := [], laidByText := true, laidKinds := [.data], laidTests := true, laidLooks := .later }
def FnExactSameRegionUptoCardSaid : Prop := Claim7.holds Tryz.pinned (.plain (OpenSpec.upto fnExactSameRegionSpec)) fnExactSameRegionUptoCard

/-- THE SECOND FORM's CARD OF 'laws.FnExactRegionsOf'. -/
def fnExactRegionsOfUptoCard : Claim7 := { stood := { row := fnExactRegionsOfUptoRow, standIns := [], harness := (true, "41f441fa10714257f504592b8a05cbf3e291b50f16035b2a50d3ab71126140ba"), looks := false }, kinds := [], alts := [], laidByText := true, laidKinds := [.data], laidTests := true, laidLooks := .later }
def FnExactRegionsOfUptoCardSaid : Prop := Claim7.holds Tryz.pinned (.plain (OpenSpec.upto fnExactRegionsOfSpec)) fnExactRegionsOfUptoCard
end Rows
end Go.Proofs.YtbfbeaghmlkjkaaGreatDoor
