/-
  DERIVED. GIVEN WITH THE SEED: THE CARDS: each row of YtncllndlbeghjaaDoorRows.lean that lists a variable, with what it lists TIED to the program's text (the seventh form; the later family's looks); each row that meets fmt, with fmt's text TOLD by the authors' own Lean function (tested against real Go, not proved from fmt's source: count such statements apart). THE CARD IS WHAT COUNTS. Prove the row's statement (the work); the ties are given (YtncllndlbeghjaaDoorTie.lean); close each card by the builder's one call (the guide's Derived/Test/ToyasCard.lean, 'card_holds'). Laid BY PROGRAM, IN A SANDBOX (cutbox-door.mjs). By AI agents, Wed Nov 11 2026. No macro, syntax, notation, axiom, sorry.
-/
import Derived.Test.YtncllndlbeghjaaDoorRows
import GoSem.ClaimSeven
namespace Go.Proofs.YtncllndlbeghjaaDoor
namespace Rows

/-- THE TIED CARD OF 'laws.FnExactParseTable'. -/
def fnExactParseTableCard : Claim7 := { stood := { row := fnExactParseTableRow, standIns := [], harness := (true, "8322dcdffc215946cfe097d534e17cd85cf92a621be62408b3012585b3ff8580"), looks := true }, kinds := [], alts := [], laidByText := true, laidKinds := [.data, .data, .data, .data, .sentinel, .sentinel, .pinned], laidTests := true, laidLooks := .later }
def FnExactParseTableCardSaid : Prop := Claim7.holds Tryd.pinned (.plain (OpenSpec.ofChange fnExactParseTableSpec)) fnExactParseTableCard

/-- THE TIED CARD OF 'laws.FnExactTableText'. -/
def fnExactTableTextCard : Claim7 := { stood := { row := fnExactTableTextRow, standIns := [], harness := (true, "8322dcdffc215946cfe097d534e17cd85cf92a621be62408b3012585b3ff8580"), looks := true }, kinds := [], alts := [], laidByText := true, laidKinds := [.data, .data, .data], laidTests := true, laidLooks := .later }
def FnExactTableTextCardSaid : Prop := Claim7.holds Tryd.pinned (.plain (OpenSpec.ofChange fnExactTableTextSpec)) fnExactTableTextCard

/-- THE TIED CARD OF 'laws.FnExactKindLine'. -/
def fnExactKindLineCard : Claim7 := { stood := { row := fnExactKindLineRow, standIns := [], harness := (true, "8322dcdffc215946cfe097d534e17cd85cf92a621be62408b3012585b3ff8580"), looks := true }, kinds := [], alts := [], laidByText := true, laidKinds := [.data, .data, .data], laidTests := true, laidLooks := .later }
def FnExactKindLineCardSaid : Prop := Claim7.holds Tryd.pinned (.plain (OpenSpec.ofChange fnExactKindLineSpec)) fnExactKindLineCard

/-- THE TIED CARD OF 'laws.FnExactTerrainLine'. -/
def fnExactTerrainLineCard : Claim7 := { stood := { row := fnExactTerrainLineRow, standIns := [], harness := (true, "8322dcdffc215946cfe097d534e17cd85cf92a621be62408b3012585b3ff8580"), looks := true }, kinds := [], alts := [], laidByText := true, laidKinds := [.data, .data, .data], laidTests := true, laidLooks := .later }
def FnExactTerrainLineCardSaid : Prop := Claim7.holds Tryd.pinned (.plain (OpenSpec.ofChange fnExactTerrainLineSpec)) fnExactTerrainLineCard

/-- THE SECOND FORM's CARD OF 'laws.FnExactParseTable'. -/
def fnExactParseTableUptoCard : Claim7 := { stood := { row := fnExactParseTableUptoRow, standIns := [], harness := (true, "8322dcdffc215946cfe097d534e17cd85cf92a621be62408b3012585b3ff8580"), looks := true }, kinds := [], alts := [], laidByText := true, laidKinds := [.data, .data, .data, .data, .sentinel, .sentinel, .pinned], laidTests := true, laidLooks := .later }
def FnExactParseTableUptoCardSaid : Prop := Claim7.holds Tryd.pinned (.plain (OpenSpec.upto fnExactParseTableSpec)) fnExactParseTableUptoCard

/-- THE SECOND FORM's CARD OF 'laws.FnExactTableText'. -/
def fnExactTableTextUptoCard : Claim7 := { stood := { row := fnExactTableTextUptoRow, standIns := [], harness := (true, "8322dcdffc215946cfe097d534e17cd85cf92a621be62408b3012585b3ff8580"), looks := true }, kinds := [], alts := [], laidByText := true, laidKinds := [.data, .data, .data], laidTests := true, laidLooks := .later }
def FnExactTableTextUptoCardSaid : Prop := Claim7.holds Tryd.pinned (.plain (OpenSpec.upto fnExactTableTextSpec)) fnExactTableTextUptoCard

/-- THE SECOND FORM's CARD OF 'laws.FnExactKindLine'. -/
def fnExactKindLineUptoCard : Claim7 := { stood := { row := fnExactKindLineUptoRow, standIns := [], harness := (true, "8322dcdffc215946cfe097d534e17cd85cf92a621be62408b3012585b3ff8580"), looks := true }, kinds := [], alts := [], laidByText := true, laidKinds := [.data, .data, .data], laidTests := true, laidLooks := .later }
def FnExactKindLineUptoCardSaid : Prop := Claim7.holds Tryd.pinned (.plain (OpenSpec.upto fnExactKindLineSpec)) fnExactKindLineUptoCard

/-- THE SECOND FORM's CARD OF 'laws.FnExactTerrainLine'. -/
def fnExactTerrainLineUptoCard : Claim7 := { stood := { row := fnExactTerrainLineUptoRow, standIns := [], harness := (true, "8322dcdffc215946cfe097d534e17cd85cf92a621be62408b3012585b3ff8580"), looks := true }, kinds := [], alts := [], laidByText := true, laidKinds := [.data, .data, .data], laidTests := true, laidLooks := .later }
def FnExactTerrainLineUptoCardSaid : Prop := Claim7.holds Tryd.pinned (.plain (OpenSpec.upto fnExactTerrainLineSpec)) fnExactTerrainLineUptoCard
end Rows
end Go.Proofs.YtncllndlbeghjaaDoor
