/-
  DERIVED. GIVEN WITH THE SEED: THE CARDS: each row of YtllmbnfceffgmaaDoorRows.lean that lists a variable, with what it lists TIED to the program's text (the seventh form; the later family's looks); each row that meets fmt, with fmt's text TOLD by the authors' own Lean function (tested against real Go, not proved from fmt's source: count such statements apart). THE CARD IS WHAT COUNTS. Prove the row's statement (the work); the ties are given (YtllmbnfceffgmaaDoorTie.lean); close each card by the builder's one call (the guide's Derived/Test/ToyasCard.lean, 'card_holds'). Laid BY PROGRAM, IN A SANDBOX (cutbox-door.mjs). By AI agents, Wed Nov 11 2026. No macro, syntax, notation, axiom, sorry.
-/
import Derived.Test.YtllmbnfceffgmaaDoorRows
import GoSem.ClaimSeven
namespace Go.Proofs.YtllmbnfceffgmaaDoor
namespace Rows

/-- THE TIED CARD OF 'laws.FnExactParseMap'. -/
def fnExactParseMapCard : Claim7 := { stood := { row := fnExactParseMapRow, standIns := [], harness := (true, "d4c5a2150e5635bc29702ea814afed9d33feec25723fcd3a1d8ba656fd4f057e"), looks := true }, kinds := [], alts := [], laidByText := true, laidKinds := [.data, .data, .data, .data, .sentinel, .sentinel, .data, .pinned], laidTests := true, laidLooks := .later }
def FnExactParseMapCardSaid : Prop := Claim7.holds Tryd.pinned (.plain (OpenSpec.ofChange fnExactParseMapSpec)) fnExactParseMapCard

/-- THE TIED CARD OF 'laws.FnExactIsMap'. -/
def fnExactIsMapCard : Claim7 := { stood := { row := fnExactIsMapRow, standIns := [], harness := (true, "d4c5a2150e5635bc29702ea814afed9d33feec25723fcd3a1d8ba656fd4f057e"), looks := true }, kinds := [], alts := [], laidByText := true, laidKinds := [.data], laidTests := true, laidLooks := .later }
def FnExactIsMapCardSaid : Prop := Claim7.holds Tryd.pinned (.plain (OpenSpec.ofChange fnExactIsMapSpec)) fnExactIsMapCard

/-- THE TIED CARD OF 'laws.FnExactEndsOf'. -/
def fnExactEndsOfCard : Claim7 := { stood := { row := fnExactEndsOfRow, standIns := [], harness := (true, "d4c5a2150e5635bc29702ea814afed9d33feec25723fcd3a1d8ba656fd4f057e"), looks := true }, kinds := [], alts := [], laidByText := true, laidKinds := [.data], laidTests := true, laidLooks := .later }
def FnExactEndsOfCardSaid : Prop := Claim7.holds Tryd.pinned (.plain (OpenSpec.ofChange fnExactEndsOfSpec)) fnExactEndsOfCard

/-- THE TIED CARD OF 'laws.FnExactNextTo'. -/
def fnExactNextToCard : Claim7 := { stood := { row := fnExactNextToRow, standIns := [], harness := (true, "d4c5a2150e5635bc29702ea814afed9d33feec25723fcd3a1d8ba656fd4f057e"), looks := true }, kinds := [], alts := [], laidByText := true, laidKinds := [.data], laidTests := true, laidLooks := .later }
def FnExactNextToCardSaid : Prop := Claim7.holds Tryd.pinned (.plain (OpenSpec.ofChange fnExactNextToSpec)) fnExactNextToCard

/-- THE TIED CARD OF 'laws.FnExactIndexOf'. -/
def fnExactIndexOfCard : Claim7 := { stood := { row := fnExactIndexOfRow, standIns := [], harness := (true, "d4c5a2150e5635bc29702ea814afed9d33feec25723fcd3a1d8ba656fd4f057e"), looks := true }, kinds := [], alts := [], laidByText := true, laidKinds := [.data], laidTests := true, laidLooks := .later }
def FnExactIndexOfCardSaid : Prop := Claim7.holds Tryd.pinned (.plain (OpenSpec.ofChange fnExactIndexOfSpec)) fnExactIndexOfCard

/-- THE TIED CARD OF 'laws.FnExactHexAt'. -/
def fnExactHexAtCard : Claim7 := { stood := { row := fnExactHexAtRow, standIns := [], harness := (true, "d4c5a2150e5635bc29702ea814afed9d33feec25723fcd3a1d8ba656fd4f057e"), looks := true }, kinds := [], alts := [], laidByText := true, laidKinds := [.data], laidTests := true, laidLooks := .later }
def FnExactHexAtCardSaid : Prop := Claim7.holds Tryd.pinned (.plain (OpenSpec.ofChange fnExactHexAtSpec)) fnExactHexAtCard

/-- THE TIED CARD OF 'laws.FnExactEdgeOf'. -/
def fnExactEdgeOfCard : Claim7 := { stood := { row := fnExactEdgeOfRow, standIns := [], harness := (true, "d4c5a2150e5635bc29702ea814afed9d33feec25723fcd3a1d8ba656fd4f057e"), looks := true }, kinds := [], alts := [], laidByText := true, laidKinds := [.data], laidTests := true, laidLooks := .later }
def FnExactEdgeOfCardSaid : Prop := Claim7.holds Tryd.pinned (.plain (OpenSpec.ofChange fnExactEdgeOfSpec)) fnExactEdgeOfCard

/-- THE TIED CARD OF 'laws.FnExactHasRiver'. -/
def fnExactHasRiverCard : Claim7 := { stood := { row := fnExactHasRiverRow, standIns := [], harness := (true, "d4c5a2150e5635bc29702ea814afed9d33feec25723fcd3a1d8ba656fd4f057e"), looks := true }, kinds := [], alts := [], laidByText := true, laidKinds := [.data], laidTests := true, laidLooks := .later }
def FnExactHasRiverCardSaid : Prop := Claim7.holds Tryd.pinned (.plain (OpenSpec.ofChange fnExactHasRiverSpec)) fnExactHasRiverCard

/-- THE TIED CARD OF 'laws.FnExactHasRoad'. -/
def fnExactHasRoadCard : Claim7 := { stood := { row := fnExactHasRoadRow, standIns := [], harness := (true, "d4c5a2150e5635bc29702ea814afed9d33feec25723fcd3a1d8ba656fd4f057e"), looks := true }, kinds := [], alts := [], laidByText := true, laidKinds := [.data], laidTests := true, laidLooks := .later }
def FnExactHasRoadCardSaid : Prop := Claim7.holds Tryd.pinned (.plain (OpenSpec.ofChange fnExactHasRoadSpec)) fnExactHasRoadCard

/-- THE TIED CARD OF 'laws.FnExactNearOn'. -/
def fnExactNearOnCard : Claim7 := { stood := { row := fnExactNearOnRow, standIns := [], harness := (true, "d4c5a2150e5635bc29702ea814afed9d33feec25723fcd3a1d8ba656fd4f057e"), looks := true }, kinds := [], alts := [], laidByText := true, laidKinds := [.data], laidTests := true, laidLooks := .later }
def FnExactNearOnCardSaid : Prop := Claim7.holds Tryd.pinned (.plain (OpenSpec.ofChange fnExactNearOnSpec)) fnExactNearOnCard

/-- THE TIED CARD OF 'laws.FnExactMapText'. -/
def fnExactMapTextCard : Claim7 := { stood := { row := fnExactMapTextRow, standIns := [], harness := (true, "d4c5a2150e5635bc29702ea814afed9d33feec25723fcd3a1d8ba656fd4f057e"), looks := true }, kinds := [], alts := [], laidByText := true, laidKinds := [.data, .data, .data, .data], laidTests := true, laidLooks := .later }
def FnExactMapTextCardSaid : Prop := Claim7.holds Tryd.pinned (.plain (OpenSpec.ofChange fnExactMapTextSpec)) fnExactMapTextCard

/-- THE TIED CARD OF 'laws.FnExactMirrorMap'. -/
def fnExactMirrorMapCard : Claim7 := { stood := { row := fnExactMirrorMapRow, standIns := [], harness := (true, "d4c5a2150e5635bc29702ea814afed9d33feec25723fcd3a1d8ba656fd4f057e"), looks := true }, kinds := [], alts := [], laidByText := true, laidKinds := [.data], laidTests := true, laidLooks := .later }
def FnExactMirrorMapCardSaid : Prop := Claim7.holds Tryd.pinned (.plain (OpenSpec.ofChange fnExactMirrorMapSpec)) fnExactMirrorMapCard

/-- THE SECOND FORM's CARD OF 'laws.FnExactParseMap'. -/
def fnExactParseMapUptoCard : Claim7 := { stood := { row := fnExactParseMapUptoRow, standIns := [], harness := (true, "d4c5a2150e5635bc29702ea814afed9d33feec25723fcd3a1d8ba656fd4f057e"), looks := true }, kinds := [], alts := [], laidByText := true, laidKinds := [.data, .data, .data, .data, .sentinel, .sentinel, .data, .pinned], laidTests := true, laidLooks := .later }
def FnExactParseMapUptoCardSaid : Prop := Claim7.holds Tryd.pinned (.plain (OpenSpec.upto fnExactParseMapSpec)) fnExactParseMapUptoCard

/-- THE SECOND FORM's CARD OF 'laws.FnExactIsMap'. -/
def fnExactIsMapUptoCard : Claim7 := { stood := { row := fnExactIsMapUptoRow, standIns := [], harness := (true, "d4c5a2150e5635bc29702ea814afed9d33feec25723fcd3a1d8ba656fd4f057e"), looks := true }, kinds := [], alts := [], laidByText := true, laidKinds := [.data], laidTests := true, laidLooks := .later }
def FnExactIsMapUptoCardSaid : Prop := Claim7.holds Tryd.pinned (.plain (OpenSpec.upto fnExactIsMapSpec)) fnExactIsMapUptoCard

/-- THE SECOND FORM's CARD OF 'laws.FnExactEndsOf'. -/
def fnExactEndsOfUptoCard : Claim7 := { stood := { row := fnExactEndsOfUptoRow, standIns := [], harness := (true, "d4c5a2150e5635bc29702ea814afed9d33feec25723fcd3a1d8ba656fd4f057e"), looks := true }, kinds := [], alts := [], laidByText := true, laidKinds := [.data], laidTests := true, laidLooks := .later }
def FnExactEndsOfUptoCardSaid : Prop := Claim7.holds Tryd.pinned (.plain (OpenSpec.upto fnExactEndsOfSpec)) fnExactEndsOfUptoCard

/-- THE SECOND FORM's CARD OF 'laws.FnExactNextTo'. -/
def fnExactNextToUptoCard : Claim7 := { stood := { row := fnExactNextToUptoRow, standIns := [], harness := (true, "d4c5a2150e5635bc29702ea814afed9d33feec25723fcd3a1d8ba656fd4f057e"), looks := true }, kinds := [], alts := [], laidByText := true, laidKinds := [.data], laidTests := true, laidLooks := .later }
def FnExactNextToUptoCardSaid : Prop := Claim7.holds Tryd.pinned (.plain (OpenSpec.upto fnExactNextToSpec)) fnExactNextToUptoCard

/-- THE SECOND FORM's CARD OF 'laws.FnExactIndexOf'. -/
def fnExactIndexOfUptoCard : Claim7 := { stood := { row := fnExactIndexOfUptoRow, standIns := [], harness := (true, "d4c5a2150e5635bc29702ea814afed9d33feec25723fcd3a1d8ba656fd4f057e"), looks := true }, kinds := [], alts := [], laidByText := true, laidKinds := [.data], laidTests := true, laidLooks := .later }
def FnExactIndexOfUptoCardSaid : Prop := Claim7.holds Tryd.pinned (.plain (OpenSpec.upto fnExactIndexOfSpec)) fnExactIndexOfUptoCard

/-- THE SECOND FORM's CARD OF 'laws.FnExactHexAt'. -/
def fnExactHexAtUptoCard : Claim7 := { stood := { row := fnExactHexAtUptoRow, standIns := [], harness := (true, "d4c5a2150e5635bc29702ea814afed9d33feec25723fcd3a1d8ba656fd4f057e"), looks := true }, kinds := [], alts := [], laidByText := true, laidKinds := [.data], laidTests := true, laidLooks := .later }
def FnExactHexAtUptoCardSaid : Prop := Claim7.holds Tryd.pinned (.plain (OpenSpec.upto fnExactHexAtSpec)) fnExactHexAtUptoCard

/-- THE SECOND FORM's CARD OF 'laws.FnExactEdgeOf'. -/
def fnExactEdgeOfUptoCard : Claim7 := { stood := { row := fnExactEdgeOfUptoRow, standIns := [], harness := (true, "d4c5a2150e5635bc29702ea814afed9d33feec25723fcd3a1d8ba656fd4f057e"), looks := true }, kinds := [], alts := [], laidByText := true, laidKinds := [.data], laidTests := true, laidLooks := .later }
def FnExactEdgeOfUptoCardSaid : Prop := Claim7.holds Tryd.pinned (.plain (OpenSpec.upto fnExactEdgeOfSpec)) fnExactEdgeOfUptoCard

/-- THE SECOND FORM's CARD OF 'laws.FnExactHasRiver'. -/
def fnExactHasRiverUptoCard : Claim7 := { stood := { row := fnExactHasRiverUptoRow, standIns := [], harness := (true, "d4c5a2150e5635bc29702ea814afed9d33feec25723fcd3a1d8ba656fd4f057e"), looks := true }, kinds := [], alts := [], laidByText := true, laidKinds := [.data], laidTests := true, laidLooks := .later }
def FnExactHasRiverUptoCardSaid : Prop := Claim7.holds Tryd.pinned (.plain (OpenSpec.upto fnExactHasRiverSpec)) fnExactHasRiverUptoCard

/-- THE SECOND FORM's CARD OF 'laws.FnExactHasRoad'. -/
def fnExactHasRoadUptoCard : Claim7 := { stood := { row := fnExactHasRoadUptoRow, standIns := [], harness := (true, "d4c5a2150e5635bc29702ea814afed9d33feec25723fcd3a1d8ba656fd4f057e"), looks := true }, kinds := [], alts := [], laidByText := true, laidKinds := [.data], laidTests := true, laidLooks := .later }
def FnExactHasRoadUptoCardSaid : Prop := Claim7.holds Tryd.pinned (.plain (OpenSpec.upto fnExactHasRoadSpec)) fnExactHasRoadUptoCard

/-- THE SECOND FORM's CARD OF 'laws.FnExactNearOn'. -/
def fnExactNearOnUptoCard : Claim7 := { stood := { row := fnExactNearOnUptoRow, standIns := [], harness := (true, "d4c5a2150e5635bc29702ea814afed9d33feec25723fcd3a1d8ba656fd4f057e"), looks := true }, kinds := [], alts := [], laidByText := true, laidKinds := [.data], laidTests := true, laidLooks := .later }
def FnExactNearOnUptoCardSaid : Prop := Claim7.holds Tryd.pinned (.plain (OpenSpec.upto fnExactNearOnSpec)) fnExactNearOnUptoCard

/-- THE SECOND FORM's CARD OF 'laws.FnExactMapText'. -/
def fnExactMapTextUptoCard : Claim7 := { stood := { row := fnExactMapTextUptoRow, standIns := [], harness := (true, "d4c5a2150e5635bc29702ea814afed9d33feec25723fcd3a1d8ba656fd4f057e"), looks := true }, kinds := [], alts := [], laidByText := true, laidKinds := [.data, .data, .data, .data], laidTests := true, laidLooks := .later }
def FnExactMapTextUptoCardSaid : Prop := Claim7.holds Tryd.pinned (.plain (OpenSpec.upto fnExactMapTextSpec)) fnExactMapTextUptoCard

/-- THE SECOND FORM's CARD OF 'laws.FnExactMirrorMap'. -/
def fnExactMirrorMapUptoCard : Claim7 := { stood := { row := fnExactMirrorMapUptoRow, standIns := [], harness := (true, "d4c5a2150e5635bc29702ea814afed9d33feec25723fcd3a1d8ba656fd4f057e"), looks := true }, kinds := [], alts := [], laidByText := true, laidKinds := [.data], laidTests := true, laidLooks := .later }
def FnExactMirrorMapUptoCardSaid : Prop := Claim7.holds Tryd.pinned (.plain (OpenSpec.upto fnExactMirrorMapSpec)) fnExactMirrorMapUptoCard
end Rows
end Go.Proofs.YtllmbnfceffgmaaDoor
