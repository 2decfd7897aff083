/-
  DERIVED. GIVEN WITH THE SEED: THE CARDS: each row of YtbfbeaghmlkjkaaDoorRows.lean that lists a variable, with what it lists TIED to the program's text (the seventh form; the later family's looks); each row that meets fmt, with fmt's text TOLD by the authors' own Lean function (tested against real Go, not proved from fmt's source: count such statements apart). THE CARD IS WHAT COUNTS. Prove the row's statement (the work); the ties are given (YtbfbeaghmlkjkaaDoorTie.lean); close each card by the builder's one call (the guide's Derived/Test/ToyasCard.lean, 'card_holds'). Laid BY PROGRAM, IN A SANDBOX (cutbox-door.mjs). By AI agents, Wed Nov 11 2026. No macro, syntax, notation, axiom, sorry.
-/
import Derived.Test.YtbfbeaghmlkjkaaDoorRows
import GoSem.ClaimSeven
namespace Go.Proofs.YtbfbeaghmlkjkaaDoor
namespace Rows

/-- THE TIED CARD OF 'laws.FnExactIsBoard'. -/
def fnExactIsBoardCard : Claim7 := { stood := { row := fnExactIsBoardRow, standIns := [], harness := (true, "5a86335038ae47da7653423544fd066c4714db72b91a6456163787ea49dc755b"), looks := false }, kinds := [], alts := [], laidByText := true, laidKinds := [.data], laidTests := true, laidLooks := .later }
def FnExactIsBoardCardSaid : Prop := Claim7.holds Tryd.pinned (.plain (OpenSpec.ofChange fnExactIsBoardSpec)) fnExactIsBoardCard

/-- THE TIED CARD OF 'laws.FnExactEnterCost'. -/
def fnExactEnterCostCard : Claim7 := { stood := { row := fnExactEnterCostRow, standIns := [], harness := (true, "5a86335038ae47da7653423544fd066c4714db72b91a6456163787ea49dc755b"), looks := false }, kinds := [], alts := [], laidByText := true, laidKinds := [.data], laidTests := true, laidLooks := .later }
def FnExactEnterCostCardSaid : Prop := Claim7.holds Tryd.pinned (.plain (OpenSpec.ofChange fnExactEnterCostSpec)) fnExactEnterCostCard

/-- THE TIED CARD OF 'laws.FnExactMissingTerrains'. -/
def fnExactMissingTerrainsCard : Claim7 := { stood := { row := fnExactMissingTerrainsRow, standIns := [], harness := (true, "5a86335038ae47da7653423544fd066c4714db72b91a6456163787ea49dc755b"), looks := false }, kinds := [], alts := [], laidByText := true, laidKinds := [.data], laidTests := true, laidLooks := .later }
def FnExactMissingTerrainsCardSaid : Prop := Claim7.holds Tryd.pinned (.plain (OpenSpec.ofChange fnExactMissingTerrainsSpec)) fnExactMissingTerrainsCard

/-- THE TIED CARD OF 'laws.FnExactOpenHexes'. -/
def fnExactOpenHexesCard : Claim7 := { stood := { row := fnExactOpenHexesRow, standIns := [], harness := (true, "5a86335038ae47da7653423544fd066c4714db72b91a6456163787ea49dc755b"), looks := false }, kinds := [], alts := [], laidByText := true, laidKinds := [.data], laidTests := true, laidLooks := .later }
def FnExactOpenHexesCardSaid : Prop := Claim7.holds Tryd.pinned (.plain (OpenSpec.ofChange fnExactOpenHexesSpec)) fnExactOpenHexesCard

/-- THE TIED CARD OF 'laws.FnExactUnusedTerrains'. -/
def fnExactUnusedTerrainsCard : Claim7 := { stood := { row := fnExactUnusedTerrainsRow, standIns := [], harness := (true, "5a86335038ae47da7653423544fd066c4714db72b91a6456163787ea49dc755b"), looks := false }, kinds := [], alts := [], laidByText := true, laidKinds := [.data], laidTests := true, laidLooks := .later }
def FnExactUnusedTerrainsCardSaid : Prop := Claim7.holds Tryd.pinned (.plain (OpenSpec.ofChange fnExactUnusedTerrainsSpec)) fnExactUnusedTerrainsCard

/-- THE TIED CARD OF 'laws.FnExactIsState'. -/
def fnExactIsStateCard : Claim7 := { stood := { row := fnExactIsStateRow, standIns := [], harness := (true, "5a86335038ae47da7653423544fd066c4714db72b91a6456163787ea49dc755b"), looks := false }, kinds := [], alts := [], laidByText := true, laidKinds := [.data], laidTests := true, laidLooks := .later }
def FnExactIsStateCardSaid : Prop := Claim7.holds Tryd.pinned (.plain (OpenSpec.ofChange fnExactIsStateSpec)) fnExactIsStateCard

/-- THE TIED CARD OF 'laws.FnExactStuckKinds'. -/
def fnExactStuckKindsCard : Claim7 := { stood := { row := fnExactStuckKindsRow, standIns := [], harness := (true, "5a86335038ae47da7653423544fd066c4714db72b91a6456163787ea49dc755b"), looks := false }, kinds := [], alts := [], laidByText := true, laidKinds := [.data], laidTests := true, laidLooks := .later }
def FnExactStuckKindsCardSaid : Prop := Claim7.holds Tryd.pinned (.plain (OpenSpec.ofChange fnExactStuckKindsSpec)) fnExactStuckKindsCard

/-- THE TIED CARD OF 'laws.FnExactOwnerOf'. -/
def fnExactOwnerOfCard : Claim7 := { stood := { row := fnExactOwnerOfRow, standIns := [], harness := (true, "5a86335038ae47da7653423544fd066c4714db72b91a6456163787ea49dc755b"), looks := false }, kinds := [], alts := [], laidByText := true, laidKinds := [.data], laidTests := true, laidLooks := .later }
def FnExactOwnerOfCardSaid : Prop := Claim7.holds Tryd.pinned (.plain (OpenSpec.ofChange fnExactOwnerOfSpec)) fnExactOwnerOfCard

/-- THE TIED CARD OF 'laws.FnExactCountSteps'. -/
def fnExactCountStepsCard : Claim7 := { stood := { row := fnExactCountStepsRow, standIns := [], harness := (true, "5a86335038ae47da7653423544fd066c4714db72b91a6456163787ea49dc755b"), looks := false }, kinds := [], alts := [], laidByText := true, laidKinds := [.data], laidTests := true, laidLooks := .later }
def FnExactCountStepsCardSaid : Prop := Claim7.holds Tryd.pinned (.plain (OpenSpec.ofChange fnExactCountStepsSpec)) fnExactCountStepsCard

/-- THE TIED CARD OF 'laws.FnExactStrengthAt'. -/
def fnExactStrengthAtCard : Claim7 := { stood := { row := fnExactStrengthAtRow, standIns := [], harness := (true, "5a86335038ae47da7653423544fd066c4714db72b91a6456163787ea49dc755b"), looks := false }, kinds := [], alts := [], laidByText := true, laidKinds := [.data], laidTests := true, laidLooks := .later }
def FnExactStrengthAtCardSaid : Prop := Claim7.holds Tryd.pinned (.plain (OpenSpec.ofChange fnExactStrengthAtSpec)) fnExactStrengthAtCard

/-- THE TIED CARD OF 'laws.FnExactRulesText'. -/
def fnExactRulesTextCard : Claim7 := { stood := { row := fnExactRulesTextRow, standIns := [], harness := (true, "5a86335038ae47da7653423544fd066c4714db72b91a6456163787ea49dc755b"), looks := false }, kinds := [], alts := [], laidByText := true, laidKinds := [.data, .data, .data, .widerDeep], laidTests := true, laidLooks := .later }
def FnExactRulesTextCardSaid : Prop := Claim7.holds Tryd.pinned (.plain (OpenSpec.ofChange fnExactRulesTextSpec)) fnExactRulesTextCard

/-- THE SECOND FORM's CARD OF 'laws.FnExactIsBoard'. -/
def fnExactIsBoardUptoCard : Claim7 := { stood := { row := fnExactIsBoardUptoRow, standIns := [], harness := (true, "5a86335038ae47da7653423544fd066c4714db72b91a6456163787ea49dc755b"), looks := false }, kinds := [], alts := [], laidByText := true, laidKinds := [.data], laidTests := true, laidLooks := .later }
def FnExactIsBoardUptoCardSaid : Prop := Claim7.holds Tryd.pinned (.plain (OpenSpec.upto fnExactIsBoardSpec)) fnExactIsBoardUptoCard

/-- THE SECOND FORM's CARD OF 'laws.FnExactEnterCost'. -/
def fnExactEnterCostUptoCard : Claim7 := { stood := { row := fnExactEnterCostUptoRow, standIns := [], harness := (true, "5a86335038ae47da7653423544fd066c4714db72b91a6456163787ea49dc755b"), looks := false }, kinds := [], alts := [], laidByText := true, laidKinds := [.data], laidTests := true, laidLooks := .later }
def FnExactEnterCostUptoCardSaid : Prop := Claim7.holds Tryd.pinned (.plain (OpenSpec.upto fnExactEnterCostSpec)) fnExactEnterCostUptoCard

/-- THE SECOND FORM's CARD OF 'laws.FnExactMissingTerrains'. -/
def fnExactMissingTerrainsUptoCard : Claim7 := { stood := { row := fnExactMissingTerrainsUptoRow, standIns := [], harness := (true, "5a86335038ae47da7653423544fd066c4714db72b91a6456163787ea49dc755b"), looks := false }, kinds := [], alts := [], laidByText := true, laidKinds := [.data], laidTests := true, laidLooks := .later }
def FnExactMissingTerrainsUptoCardSaid : Prop := Claim7.holds Tryd.pinned (.plain (OpenSpec.upto fnExactMissingTerrainsSpec)) fnExactMissingTerrainsUptoCard

/-- THE SECOND FORM's CARD OF 'laws.FnExactOpenHexes'. -/
def fnExactOpenHexesUptoCard : Claim7 := { stood := { row := fnExactOpenHexesUptoRow, standIns := [], harness := (true, "5a86335038ae47da7653423544fd066c4714db72b91a6456163787ea49dc755b"), looks := false }, kinds := [], alts := [], laidByText := true, laidKinds := [.data], laidTests := true, laidLooks := .later }
def FnExactOpenHexesUptoCardSaid : Prop := Claim7.holds Tryd.pinned (.plain (OpenSpec.upto fnExactOpenHexesSpec)) fnExactOpenHexesUptoCard

/-- THE SECOND FORM's CARD OF 'laws.FnExactUnusedTerrains'. -/
def fnExactUnusedTerrainsUptoCard : Claim7 := { stood := { row := fnExactUnusedTerrainsUptoRow, standIns := [], harness := (true, "5a86335038ae47da7653423544fd066c4714db72b91a6456163787ea49dc755b"), looks := false }, kinds := [], alts := [], laidByText := true, laidKinds := [.data], laidTests := true, laidLooks := .later }
def FnExactUnusedTerrainsUptoCardSaid : Prop := Claim7.holds Tryd.pinned (.plain (OpenSpec.upto fnExactUnusedTerrainsSpec)) fnExactUnusedTerrainsUptoCard

/-- THE SECOND FORM's CARD OF 'laws.FnExactIsState'. -/
def fnExactIsStateUptoCard : Claim7 := { stood := { row := fnExactIsStateUptoRow, standIns := [], harness := (true, "5a86335038ae47da7653423544fd066c4714db72b91a6456163787ea49dc755b"), looks := false }, kinds := [], alts := [], laidByText := true, laidKinds := [.data], laidTests := true, laidLooks := .later }
def FnExactIsStateUptoCardSaid : Prop := Claim7.holds Tryd.pinned (.plain (OpenSpec.upto fnExactIsStateSpec)) fnExactIsStateUptoCard

/-- THE SECOND FORM's CARD OF 'laws.FnExactStuckKinds'. -/
def fnExactStuckKindsUptoCard : Claim7 := { stood := { row := fnExactStuckKindsUptoRow, standIns := [], harness := (true, "5a86335038ae47da7653423544fd066c4714db72b91a6456163787ea49dc755b"), looks := false }, kinds := [], alts := [], laidByText := true, laidKinds := [.data], laidTests := true, laidLooks := .later }
def FnExactStuckKindsUptoCardSaid : Prop := Claim7.holds Tryd.pinned (.plain (OpenSpec.upto fnExactStuckKindsSpec)) fnExactStuckKindsUptoCard

/-- THE SECOND FORM's CARD OF 'laws.FnExactOwnerOf'. -/
def fnExactOwnerOfUptoCard : Claim7 := { stood := { row := fnExactOwnerOfUptoRow, standIns := [], harness := (true, "5a86335038ae47da7653423544fd066c4714db72b91a6456163787ea49dc755b"), looks := false }, kinds := [], alts := [], laidByText := true, laidKinds := [.data], laidTests := true, laidLooks := .later }
def FnExactOwnerOfUptoCardSaid : Prop := Claim7.holds Tryd.pinned (.plain (OpenSpec.upto fnExactOwnerOfSpec)) fnExactOwnerOfUptoCard

/-- THE SECOND FORM's CARD OF 'laws.FnExactCountSteps'. -/
def fnExactCountStepsUptoCard : Claim7 := { stood := { row := fnExactCountStepsUptoRow, standIns := [], harness := (true, "5a86335038ae47da7653423544fd066c4714db72b91a6456163787ea49dc755b"), looks := false }, kinds := [], alts := [], laidByText := true, laidKinds := [.data], laidTests := true, laidLooks := .later }
def FnExactCountStepsUptoCardSaid : Prop := Claim7.holds Tryd.pinned (.plain (OpenSpec.upto fnExactCountStepsSpec)) fnExactCountStepsUptoCard

/-- THE SECOND FORM's CARD OF 'laws.FnExactStrengthAt'. -/
def fnExactStrengthAtUptoCard : Claim7 := { stood := { row := fnExactStrengthAtUptoRow, standIns := [], harness := (true, "5a86335038ae47da7653423544fd066c4714db72b91a6456163787ea49dc755b"), looks := false }, kinds := [], alts := [], laidByText := true, laidKinds := [.data], laidTests := true, laidLooks := .later }
def FnExactStrengthAtUptoCardSaid : Prop := Claim7.holds Tryd.pinned (.plain (OpenSpec.upto fnExactStrengthAtSpec)) fnExactStrengthAtUptoCard

/-- THE SECOND FORM's CARD OF 'laws.FnExactRulesText'. -/
def fnExactRulesTextUptoCard : Claim7 := { stood := { row := fnExactRulesTextUptoRow, standIns := [], harness := (true, "5a86335038ae47da7653423544fd066c4714db72b91a6456163787ea49dc755b"), looks := false }, kinds := [], alts := [], laidByText := true, laidKinds := [.data, .data, .data, .widerDeep], laidTests := true, laidLooks := .later }
def FnExactRulesTextUptoCardSaid : Prop := Claim7.holds Tryd.pinned (.plain (OpenSpec.upto fnExactRulesTextSpec)) fnExactRulesTextUptoCard
end Rows
end Go.Proofs.YtbfbeaghmlkjkaaDoor
