/-
  DERIVED. GIVEN WITH THE SEED: THE CARDS: each row of YtppmhlkonemebaaDoorRows.lean that lists a variable, with what it lists TIED to the program's text (the seventh form; the later family's looks); each row that meets fmt, with fmt's text TOLD by the authors' own Lean function (tested against real Go, not proved from fmt's source: count such statements apart). THE CARD IS WHAT COUNTS. Prove the row's statement (the work); the ties are given (YtppmhlkonemebaaDoorTie.lean); close each card by the builder's one call (the guide's Derived/Test/ToyasCard.lean, 'card_holds'). Laid BY PROGRAM, IN A SANDBOX (cutbox-door.mjs). By AI agents, Wed Nov 11 2026. No macro, syntax, notation, axiom, sorry.
-/
import Derived.Test.YtppmhlkonemebaaDoorRows
import GoSem.ClaimSeven
namespace Go.Proofs.YtppmhlkonemebaaDoor
namespace Rows

/-- THE TIED CARD OF 'docketlaw2.DigestPlays'. -/
def digestPlaysCard : Claim7 := { stood := { row := digestPlaysRow, standIns := [], harness := (true, "de54cde171a11ee1659130381194935b4f6c111aa41b61052ac639c82becd8cd"), looks := false }, kinds := [], alts := [], laidByText := true, laidKinds := [.data], laidTests := true, laidLooks := .later }
def DigestPlaysCardSaid : Prop := Claim7.holds Tryd.pinned (.plain (OpenSpec.ofChange digestPlaysSpec)) digestPlaysCard

/-- THE TIED CARD OF 'docketlaw2.DigestSums'. -/
def digestSumsCard : Claim7 := { stood := { row := digestSumsRow, standIns := [], harness := (true, "de54cde171a11ee1659130381194935b4f6c111aa41b61052ac639c82becd8cd"), looks := false }, kinds := [], alts := [], laidByText := true, laidKinds := [.data], laidTests := true, laidLooks := .later }
def DigestSumsCardSaid : Prop := Claim7.holds Tryd.pinned (.plain (OpenSpec.ofChange digestSumsSpec)) digestSumsCard

/-- THE TIED CARD OF 'docketlaw2.DigestSplits'. -/
def digestSplitsCard : Claim7 := { stood := { row := digestSplitsRow, standIns := [], harness := (true, "de54cde171a11ee1659130381194935b4f6c111aa41b61052ac639c82becd8cd"), looks := false }, kinds := [], alts := [], laidByText := true, laidKinds := [.data], laidTests := true, laidLooks := .later }
def DigestSplitsCardSaid : Prop := Claim7.holds Tryd.pinned (.plain (OpenSpec.ofChange digestSplitsSpec)) digestSplitsCard

/-- THE TIED CARD OF 'docketlaw2.DigestMacs'. -/
def digestMacsCard : Claim7 := { stood := { row := digestMacsRow, standIns := [], harness := (true, "de54cde171a11ee1659130381194935b4f6c111aa41b61052ac639c82becd8cd"), looks := false }, kinds := [], alts := [], laidByText := true, laidKinds := [.data], laidTests := true, laidLooks := .later }
def DigestMacsCardSaid : Prop := Claim7.holds Tryd.pinned (.plain (OpenSpec.ofChange digestMacsSpec)) digestMacsCard

/-- THE TIED CARD OF 'docketlaw2.DigestClash'. -/
def digestClashCard : Claim7 := { stood := { row := digestClashRow, standIns := [], harness := (true, "de54cde171a11ee1659130381194935b4f6c111aa41b61052ac639c82becd8cd"), looks := false }, kinds := [], alts := [], laidByText := true, laidKinds := [.data], laidTests := true, laidLooks := .later }
def DigestClashCardSaid : Prop := Claim7.holds Tryd.pinned (.plain (OpenSpec.ofChange digestClashSpec)) digestClashCard

/-- THE TIED CARD OF 'docketlaw2.DigestNames'. -/
def digestNamesCard : Claim7 := { stood := { row := digestNamesRow, standIns := [], harness := (true, "de54cde171a11ee1659130381194935b4f6c111aa41b61052ac639c82becd8cd"), looks := false }, kinds := [], alts := [], laidByText := true, laidKinds := [.data], laidTests := true, laidLooks := .later }
def DigestNamesCardSaid : Prop := Claim7.holds Tryd.pinned (.plain (OpenSpec.ofChange digestNamesSpec)) digestNamesCard

/-- THE TIED CARD OF 'docketlaw2.DigestTable'. -/
def digestTableCard : Claim7 := { stood := { row := digestTableRow, standIns := [], harness := (true, "de54cde171a11ee1659130381194935b4f6c111aa41b61052ac639c82becd8cd"), looks := false }, kinds := [], alts := [], laidByText := true, laidKinds := [.data], laidTests := true, laidLooks := .later }
def DigestTableCardSaid : Prop := Claim7.holds Tryd.pinned (.plain (OpenSpec.ofChange digestTableSpec)) digestTableCard

/-- THE TIED CARD OF 'docketlaw2.DigestApart'. -/
def digestApartCard : Claim7 := { stood := { row := digestApartRow, standIns := [], harness := (true, "de54cde171a11ee1659130381194935b4f6c111aa41b61052ac639c82becd8cd"), looks := false }, kinds := [], alts := [], laidByText := true, laidKinds := [.data], laidTests := true, laidLooks := .later }
def DigestApartCardSaid : Prop := Claim7.holds Tryd.pinned (.plain (OpenSpec.ofChange digestApartSpec)) digestApartCard

/-- THE TIED CARD OF 'docketlaw2.DigestMust'. -/
def digestMustCard : Claim7 := { stood := { row := digestMustRow, standIns := [], harness := (true, "de54cde171a11ee1659130381194935b4f6c111aa41b61052ac639c82becd8cd"), looks := false }, kinds := [], alts := [], laidByText := true, laidKinds := [.data, .data, .data], laidTests := true, laidLooks := .later }
def DigestMustCardSaid : Prop := Claim7.holds Tryd.pinned (.plain (OpenSpec.ofChange digestMustSpec)) digestMustCard

/-- THE SECOND FORM's CARD OF 'docketlaw2.DigestPlays'. -/
def digestPlaysUptoCard : Claim7 := { stood := { row := digestPlaysUptoRow, standIns := [], harness := (true, "de54cde171a11ee1659130381194935b4f6c111aa41b61052ac639c82becd8cd"), looks := false }, kinds := [], alts := [], laidByText := true, laidKinds := [.data], laidTests := true, laidLooks := .later }
def DigestPlaysUptoCardSaid : Prop := Claim7.holds Tryd.pinned (.plain (OpenSpec.upto digestPlaysSpec)) digestPlaysUptoCard

/-- THE SECOND FORM's CARD OF 'docketlaw2.DigestSums'. -/
def digestSumsUptoCard : Claim7 := { stood := { row := digestSumsUptoRow, standIns := [], harness := (true, "de54cde171a11ee1659130381194935b4f6c111aa41b61052ac639c82becd8cd"), looks := false }, kinds := [], alts := [], laidByText := true, laidKinds := [.data], laidTests := true, laidLooks := .later }
def DigestSumsUptoCardSaid : Prop := Claim7.holds Tryd.pinned (.plain (OpenSpec.upto digestSumsSpec)) digestSumsUptoCard

/-- THE SECOND FORM's CARD OF 'docketlaw2.DigestSplits'. -/
def digestSplitsUptoCard : Claim7 := { stood := { row := digestSplitsUptoRow, standIns := [], harness := (true, "de54cde171a11ee1659130381194935b4f6c111aa41b61052ac639c82becd8cd"), looks := false }, kinds := [], alts := [], laidByText := true, laidKinds := [.data], laidTests := true, laidLooks := .later }
def DigestSplitsUptoCardSaid : Prop := Claim7.holds Tryd.pinned (.plain (OpenSpec.upto digestSplitsSpec)) digestSplitsUptoCard

/-- THE SECOND FORM's CARD OF 'docketlaw2.DigestMacs'. -/
def digestMacsUptoCard : Claim7 := { stood := { row := digestMacsUptoRow, standIns := [], harness := (true, "de54cde171a11ee1659130381194935b4f6c111aa41b61052ac639c82becd8cd"), looks := false }, kinds := [], alts := [], laidByText := true, laidKinds := [.data], laidTests := true, laidLooks := .later }
def DigestMacsUptoCardSaid : Prop := Claim7.holds Tryd.pinned (.plain (OpenSpec.upto digestMacsSpec)) digestMacsUptoCard

/-- THE SECOND FORM's CARD OF 'docketlaw2.DigestClash'. -/
def digestClashUptoCard : Claim7 := { stood := { row := digestClashUptoRow, standIns := [], harness := (true, "de54cde171a11ee1659130381194935b4f6c111aa41b61052ac639c82becd8cd"), looks := false }, kinds := [], alts := [], laidByText := true, laidKinds := [.data], laidTests := true, laidLooks := .later }
def DigestClashUptoCardSaid : Prop := Claim7.holds Tryd.pinned (.plain (OpenSpec.upto digestClashSpec)) digestClashUptoCard

/-- THE SECOND FORM's CARD OF 'docketlaw2.DigestNames'. -/
def digestNamesUptoCard : Claim7 := { stood := { row := digestNamesUptoRow, standIns := [], harness := (true, "de54cde171a11ee1659130381194935b4f6c111aa41b61052ac639c82becd8cd"), looks := false }, kinds := [], alts := [], laidByText := true, laidKinds := [.data], laidTests := true, laidLooks := .later }
def DigestNamesUptoCardSaid : Prop := Claim7.holds Tryd.pinned (.plain (OpenSpec.upto digestNamesSpec)) digestNamesUptoCard

/-- THE SECOND FORM's CARD OF 'docketlaw2.DigestTable'. -/
def digestTableUptoCard : Claim7 := { stood := { row := digestTableUptoRow, standIns := [], harness := (true, "de54cde171a11ee1659130381194935b4f6c111aa41b61052ac639c82becd8cd"), looks := false }, kinds := [], alts := [], laidByText := true, laidKinds := [.data], laidTests := true, laidLooks := .later }
def DigestTableUptoCardSaid : Prop := Claim7.holds Tryd.pinned (.plain (OpenSpec.upto digestTableSpec)) digestTableUptoCard

/-- THE SECOND FORM's CARD OF 'docketlaw2.DigestApart'. -/
def digestApartUptoCard : Claim7 := { stood := { row := digestApartUptoRow, standIns := [], harness := (true, "de54cde171a11ee1659130381194935b4f6c111aa41b61052ac639c82becd8cd"), looks := false }, kinds := [], alts := [], laidByText := true, laidKinds := [.data], laidTests := true, laidLooks := .later }
def DigestApartUptoCardSaid : Prop := Claim7.holds Tryd.pinned (.plain (OpenSpec.upto digestApartSpec)) digestApartUptoCard

/-- THE SECOND FORM's CARD OF 'docketlaw2.DigestMust'. -/
def digestMustUptoCard : Claim7 := { stood := { row := digestMustUptoRow, standIns := [], harness := (true, "de54cde171a11ee1659130381194935b4f6c111aa41b61052ac639c82becd8cd"), looks := false }, kinds := [], alts := [], laidByText := true, laidKinds := [.data, .data, .data], laidTests := true, laidLooks := .later }
def DigestMustUptoCardSaid : Prop := Claim7.holds Tryd.pinned (.plain (OpenSpec.upto digestMustSpec)) digestMustUptoCard
end Rows
end Go.Proofs.YtppmhlkonemebaaDoor
