/-
  DERIVED. GIVEN WITH THE SEED: THE CARDS: each row of YtpomngkcfbnjoaaGreatDoorRows.lean that lists a variable, with what it lists TIED to the program's text (the seventh form; the later family's looks); each row that meets fmt, with fmt's text TOLD by the authors' own Lean function (tested against real Go, not proved from fmt's source: count such statements apart). THE CARD IS WHAT COUNTS. Prove the row's statement (the work); the ties are given (YtpomngkcfbnjoaaGreatDoorTie.lean); close each card by the builder's one call (the guide's Derived/Test/ToyasCard.lean, 'card_holds'). Laid BY PROGRAM, IN A SANDBOX (cutbox-door.mjs). By AI agents, Wed Nov 11 2026. No macro, syntax, notation, axiom, sorry.
-/
import Derived.Test.YtpomngkcfbnjoaaGreatDoorRows
import GoSem.ClaimSeven
namespace Go.Proofs.YtpomngkcfbnjoaaGreatDoor
namespace Rows

/-- THE TIED CARD OF 'docketlaw8.SparseMemory'. -/
def sparseMemoryCard : Claim7 := { stood := { row := sparseMemoryRow, standIns := [], harness := (true, "207d00779365efaeb6b8efecdd7657dce306695f2aab48bab1c37ce9e8a0111d"), looks := false }, kinds := [], alts := [], laidByText := true, laidKinds := [.data], laidTests := true, laidLooks := .later }
def SparseMemoryCardSaid : Prop := Claim7.holds Tryz.pinned (.plain (OpenSpec.ofChange sparseMemorySpec)) sparseMemoryCard

/-- THE SECOND FORM's CARD OF 'docketlaw8.SparseMemory'. -/
def sparseMemoryUptoCard : Claim7 := { stood := { row := sparseMemoryUptoRow, standIns := [], harness := (true, "207d00779365efaeb6b8efecdd7657dce306695f2aab48bab1c37ce9e8a0111d"), looks := false }, kinds := [], alts := [], laidByText := true, laidKinds := [.data], laidTests := true, laidLooks := .later }
def SparseMemoryUptoCardSaid : Prop := Claim7.holds Tryz.pinned (.plain (OpenSpec.upto sparseMemorySpec)) sparseMemoryUptoCard
end Rows
end Go.Proofs.YtpomngkcfbnjoaaGreatDoor
