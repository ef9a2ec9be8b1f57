/-
  DERIVED. GIVEN WITH THE SEED: THE CARDS: each row of YtepbmdlgdaedpaaGreatDoorRows.lean that lists a variable, with what it lists TIED to the program's text (the seventh form; the later family's looks); each row that meets fmt, with fmt's text TOLD by the authors' own Lean function (tested against real Go, not proved from fmt's source: count such statements apart). THE CARD IS WHAT COUNTS. Prove the row's statement (the work); the ties are given (YtepbmdlgdaedpaaGreatDoorTie.lean); close each card by the builder's one call (the guide's Derived/Test/ToyasCard.lean, 'card_holds'). Laid BY PROGRAM, IN A SANDBOX (cutbox-door.mjs). By AI agents, Wed Nov 11 2026. No macro, syntax, notation, axiom, sorry.
-/
import Derived.Test.YtepbmdlgdaedpaaGreatDoorRows
import GoSem.ClaimSeven
namespace Go.Proofs.YtepbmdlgdaedpaaGreatDoor
namespace Rows

/-- THE TIED CARD OF 'docketlaw14.EventEncodes'. -/
def eventEncodesCard : Claim7 := { stood := { row := eventEncodesRow, standIns := [], harness := (true, "6f0dbd336bb2e1e24274284c6f8bfc3777023ab7f9367b5c1d56e11f9400b06f"), looks := false }, kinds := [], alts := [], laidByText := true, laidKinds := [.data, .data], laidTests := true, laidLooks := .later }
def EventEncodesCardSaid : Prop := Claim7.holds Tryz.pinned (.plain (OpenSpec.ofChange eventEncodesSpec)) eventEncodesCard

/-- THE TIED CARD OF 'docketlaw14.EventDecodes'. -/
def eventDecodesCard : Claim7 := { stood := { row := eventDecodesRow, standIns := [], harness := (true, "6f0dbd336bb2e1e24274284c6f8bfc3777023ab7f9367b5c1d56e11f9400b06f"), looks := false }, kinds := [], alts := [], laidByText := true, laidKinds := [.data, .data], laidTests := true, laidLooks := .later }
def EventDecodesCardSaid : Prop := Claim7.holds Tryz.pinned (.plain (OpenSpec.ofChange eventDecodesSpec)) eventDecodesCard

/-- THE TIED CARD OF 'docketlaw14.EventBack'. -/
def eventBackCard : Claim7 := { stood := { row := eventBackRow, standIns := [], harness := (true, "6f0dbd336bb2e1e24274284c6f8bfc3777023ab7f9367b5c1d56e11f9400b06f"), looks := false }, kinds := [], alts := [], laidByText := true, laidKinds := [.data], laidTests := true, laidLooks := .later }
def EventBackCardSaid : Prop := Claim7.holds Tryz.pinned (.plain (OpenSpec.ofChange eventBackSpec)) eventBackCard

/-- THE TIED CARD OF 'docketlaw14.EventApart'. -/
def eventApartCard : Claim7 := { stood := { row := eventApartRow, standIns := [], harness := (true, "6f0dbd336bb2e1e24274284c6f8bfc3777023ab7f9367b5c1d56e11f9400b06f"), looks := false }, kinds := [], alts := [], laidByText := true, laidKinds := [.data], laidTests := true, laidLooks := .later }
def EventApartCardSaid : Prop := Claim7.holds Tryz.pinned (.plain (OpenSpec.ofChange eventApartSpec)) eventApartCard

/-- THE TIED CARD OF 'docketlaw14.EventTells'. -/
def eventTellsCard : Claim7 := { stood := { row := eventTellsRow, standIns := [], harness := (true, "6f0dbd336bb2e1e24274284c6f8bfc3777023ab7f9367b5c1d56e11f9400b06f"), looks := false }, kinds := [], alts := [], laidByText := true, laidKinds := [.data], laidTests := true, laidLooks := .later }
def EventTellsCardSaid : Prop := Claim7.holds Tryz.pinned (.plain (OpenSpec.ofChange eventTellsSpec)) eventTellsCard

/-- THE TIED CARD OF 'docketlaw14.EventOrders'. -/
def eventOrdersCard : Claim7 := { stood := { row := eventOrdersRow, standIns := [], harness := (true, "6f0dbd336bb2e1e24274284c6f8bfc3777023ab7f9367b5c1d56e11f9400b06f"), looks := false }, kinds := [], alts := [], laidByText := true, laidKinds := [.data], laidTests := true, laidLooks := .later }
def EventOrdersCardSaid : Prop := Claim7.holds Tryz.pinned (.plain (OpenSpec.ofChange eventOrdersSpec)) eventOrdersCard

/-- THE TIED CARD OF 'docketlaw14.EventKept'. -/
def eventKeptCard : Claim7 := { stood := { row := eventKeptRow, standIns := [], harness := (true, "6f0dbd336bb2e1e24274284c6f8bfc3777023ab7f9367b5c1d56e11f9400b06f"), looks := false }, kinds := [], alts := [], laidByText := true, laidKinds := [.data], laidTests := true, laidLooks := .later }
def EventKeptCardSaid : Prop := Claim7.holds Tryz.pinned (.plain (OpenSpec.ofChange eventKeptSpec)) eventKeptCard

/-- THE TIED CARD OF 'docketlaw14.EventValues'. -/
def eventValuesCard : Claim7 := { stood := { row := eventValuesRow, standIns := [], harness := (true, "6f0dbd336bb2e1e24274284c6f8bfc3777023ab7f9367b5c1d56e11f9400b06f"), looks := false }, kinds := [], alts := [], laidByText := true, laidKinds := [.data], laidTests := true, laidLooks := .later }
def EventValuesCardSaid : Prop := Claim7.holds Tryz.pinned (.plain (OpenSpec.ofChange eventValuesSpec)) eventValuesCard

/-- THE TIED CARD OF 'docketlaw14.EventStates'. -/
def eventStatesCard : Claim7 := { stood := { row := eventStatesRow, standIns := [], harness := (true, "6f0dbd336bb2e1e24274284c6f8bfc3777023ab7f9367b5c1d56e11f9400b06f"), looks := false }, kinds := [], alts := [], laidByText := true, laidKinds := [.data, .data, .data], laidTests := true, laidLooks := .later }
def EventStatesCardSaid : Prop := Claim7.holds Tryz.pinned (.plain (OpenSpec.ofChange eventStatesSpec)) eventStatesCard

/-- THE TIED CARD OF 'docketlaw14.EventTables'. -/
def eventTablesCard : Claim7 := { stood := { row := eventTablesRow, standIns := [], harness := (true, "6f0dbd336bb2e1e24274284c6f8bfc3777023ab7f9367b5c1d56e11f9400b06f"), looks := false }, kinds := [], alts := [], laidByText := true, laidKinds := [.data, .data, .data], laidTests := true, laidLooks := .later }
def EventTablesCardSaid : Prop := Claim7.holds Tryz.pinned (.plain (OpenSpec.ofChange eventTablesSpec)) eventTablesCard

/-- THE TIED CARD OF 'docketlaw14.EventChains'. -/
def eventChainsCard : Claim7 := { stood := { row := eventChainsRow, standIns := [], harness := (true, "6f0dbd336bb2e1e24274284c6f8bfc3777023ab7f9367b5c1d56e11f9400b06f"), looks := false }, kinds := [], alts := [], laidByText := true, laidKinds := [.data, .data], laidTests := true, laidLooks := .later }
def EventChainsCardSaid : Prop := Claim7.holds Tryz.pinned (.plain (OpenSpec.ofChange eventChainsSpec)) eventChainsCard

/-- THE SECOND FORM's CARD OF 'docketlaw14.EventEncodes'. -/
def eventEncodesUptoCard : Claim7 := { stood := { row := eventEncodesUptoRow, standIns := [], harness := (true, "6f0dbd336bb2e1e24274284c6f8bfc3777023ab7f9367b5c1d56e11f9400b06f"), looks := false }, kinds := [], alts := [], laidByText := true, laidKinds := [.data, .data], laidTests := true, laidLooks := .later }
def EventEncodesUptoCardSaid : Prop := Claim7.holds Tryz.pinned (.plain (OpenSpec.upto eventEncodesSpec)) eventEncodesUptoCard

/-- THE SECOND FORM's CARD OF 'docketlaw14.EventDecodes'. -/
def eventDecodesUptoCard : Claim7 := { stood := { row := eventDecodesUptoRow, standIns := [], harness := (true, "6f0dbd336bb2e1e24274284c6f8bfc3777023ab7f9367b5c1d56e11f9400b06f"), looks := false }, kinds := [], alts := [], laidByText := true, laidKinds := [.data, .data], laidTests := true, laidLooks := .later }
def EventDecodesUptoCardSaid : Prop := Claim7.holds Tryz.pinned (.plain (OpenSpec.upto eventDecodesSpec)) eventDecodesUptoCard

/-- THE SECOND FORM's CARD OF 'docketlaw14.EventBack'. -/
def eventBackUptoCard : Claim7 := { stood := { row := eventBackUptoRow, standIns := [], harness := (true, "6f0dbd336bb2e1e24274284c6f8bfc3777023ab7f9367b5c1d56e11f9400b06f"), looks := false }, kinds := [], alts := [], laidByText := true, laidKinds := [.data], laidTests := true, laidLooks := .later }
def EventBackUptoCardSaid : Prop := Claim7.holds Tryz.pinned (.plain (OpenSpec.upto eventBackSpec)) eventBackUptoCard

/-- THE SECOND FORM's CARD OF 'docketlaw14.EventApart'. -/
def eventApartUptoCard : Claim7 := { stood := { row := eventApartUptoRow, standIns := [], harness := (true, "6f0dbd336bb2e1e24274284c6f8bfc3777023ab7f9367b5c1d56e11f9400b06f"), looks := false }, kinds := [], alts := [], laidByText := true, laidKinds := [.data], laidTests := true, laidLooks := .later }
def EventApartUptoCardSaid : Prop := Claim7.holds Tryz.pinned (.plain (OpenSpec.upto eventApartSpec)) eventApartUptoCard

/-- THE SECOND FORM's CARD OF 'docketlaw14.EventTells'. -/
def eventTellsUptoCard : Claim7 := { stood := { row := eventTellsUptoRow, standIns := [], harness := (true, "6f0dbd336bb2e1e24274284c6f8bfc3777023ab7f9367b5c1d56e11f9400b06f"), looks := false }, kinds := [], alts := [], laidByText := true, laidKinds := [.data], laidTests := true, laidLooks := .later }
def EventTellsUptoCardSaid : Prop := Claim7.holds Tryz.pinned (.plain (OpenSpec.upto eventTellsSpec)) eventTellsUptoCard

/-- THE SECOND FORM's CARD OF 'docketlaw14.EventOrders'. -/
def eventOrdersUptoCard : Claim7 := { stood := { row := eventOrdersUptoRow, standIns := [], harness := (true, "6f0dbd336bb2e1e24274284c6f8bfc3777023ab7f9367b5c1d56e11f9400b06f"), looks := false }, kinds := [], alts := [], laidByText := true, laidKinds := [.data], laidTests := true, laidLooks := .later }
def EventOrdersUptoCardSaid : Prop := Claim7.holds Tryz.pinned (.plain (OpenSpec.upto eventOrdersSpec)) eventOrdersUptoCard

/-- THE SECOND FORM's CARD OF 'docketlaw14.EventKept'. -/
def eventKeptUptoCard : Claim7 := { stood := { row := eventKeptUptoRow, standIns := [], harness := (true, "6f0dbd336bb2e1e24274284c6f8bfc3777023ab7f9367b5c1d56e11f9400b06f"), looks := false }, kinds := [], alts := [], laidByText := true, laidKinds := [.data], laidTests := true, laidLooks := .later }
def EventKeptUptoCardSaid : Prop := Claim7.holds Tryz.pinned (.plain (OpenSpec.upto eventKeptSpec)) eventKeptUptoCard

/-- THE SECOND FORM's CARD OF 'docketlaw14.EventValues'. -/
def eventValuesUptoCard : Claim7 := { stood := { row := eventValuesUptoRow, standIns := [], harness := (true, "6f0dbd336bb2e1e24274284c6f8bfc3777023ab7f9367b5c1d56e11f9400b06f"), looks := false }, kinds := [], alts := [], laidByText := true, laidKinds := [.data], laidTests := true, laidLooks := .later }
def EventValuesUptoCardSaid : Prop := Claim7.holds Tryz.pinned (.plain (OpenSpec.upto eventValuesSpec)) eventValuesUptoCard

/-- THE SECOND FORM's CARD OF 'docketlaw14.EventStates'. -/
def eventStatesUptoCard : Claim7 := { stood := { row := eventStatesUptoRow, standIns := [], harness := (true, "6f0dbd336bb2e1e24274284c6f8bfc3777023ab7f9367b5c1d56e11f9400b06f"), looks := false }, kinds := [], alts := [], laidByText := true, laidKinds := [.data, .data, .data], laidTests := true, laidLooks := .later }
def EventStatesUptoCardSaid : Prop := Claim7.holds Tryz.pinned (.plain (OpenSpec.upto eventStatesSpec)) eventStatesUptoCard

/-- THE SECOND FORM's CARD OF 'docketlaw14.EventTables'. -/
def eventTablesUptoCard : Claim7 := { stood := { row := eventTablesUptoRow, standIns := [], harness := (true, "6f0dbd336bb2e1e24274284c6f8bfc3777023ab7f9367b5c1d56e11f9400b06f"), looks := false }, kinds := [], alts := [], laidByText := true, laidKinds := [.data, .data, .data], laidTests := true, laidLooks := .later }
def EventTablesUptoCardSaid : Prop := Claim7.holds Tryz.pinned (.plain (OpenSpec.upto eventTablesSpec)) eventTablesUptoCard

/-- THE SECOND FORM's CARD OF 'docketlaw14.EventChains'. -/
def eventChainsUptoCard : Claim7 := { stood := { row := eventChainsUptoRow, standIns := [], harness := (true, "6f0dbd336bb2e1e24274284c6f8bfc3777023ab7f9367b5c1d56e11f9400b06f"), looks := false }, kinds := [], alts := [], laidByText := true, laidKinds := [.data, .data], laidTests := true, laidLooks := .later }
def EventChainsUptoCardSaid : Prop := Claim7.holds Tryz.pinned (.plain (OpenSpec.upto eventChainsSpec)) eventChainsUptoCard
end Rows
end Go.Proofs.YtepbmdlgdaedpaaGreatDoor
