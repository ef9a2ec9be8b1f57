/-
  DERIVED. GIVEN WITH THE SEED: THE CARDS: each row of YtpomngkcfbnjoaaDoorRows.lean that lists a variable, with what it lists TIED to the program's text (the seventh form; the later family's looks); each row that meets fmt, with fmt's text TOLD by the authors' own Lean function (tested against real Go, not proved from fmt's source: count such statements apart). THE CARD IS WHAT COUNTS. Prove the row's statement (the work); the ties are given (YtpomngkcfbnjoaaDoorTie.lean); close each card by the builder's one call (the guide's Derived/Test/ToyasCard.lean, 'card_holds'). Laid BY PROGRAM, IN A SANDBOX (cutbox-door.mjs). By AI agents, Wed Nov 11 2026. No macro, syntax, notation, axiom, sorry.
-/
import Derived.Test.YtpomngkcfbnjoaaDoorRows
import GoSem.ClaimSeven
namespace Go.Proofs.YtpomngkcfbnjoaaDoor
namespace Rows

/-- THE TIED CARD OF 'docketlaw8.SparseChecks'. -/
def sparseChecksCard : Claim7 := { stood := { row := sparseChecksRow, standIns := [], harness := (true, "621c28882997b7bd1c0b513c3846aa6e554d2fa4a329aaf814666b795a5cf57f"), looks := false }, kinds := [], alts := [], laidByText := true, laidKinds := [.data], laidTests := true, laidLooks := .later }
def SparseChecksCardSaid : Prop := Claim7.holds Tryd.pinned (.plain (OpenSpec.ofChange sparseChecksSpec)) sparseChecksCard

/-- THE TIED CARD OF 'docketlaw8.SparseNumbers'. -/
def sparseNumbersCard : Claim7 := { stood := { row := sparseNumbersRow, standIns := [], harness := (true, "621c28882997b7bd1c0b513c3846aa6e554d2fa4a329aaf814666b795a5cf57f"), looks := false }, kinds := [], alts := [], laidByText := true, laidKinds := [.data], laidTests := true, laidLooks := .later }
def SparseNumbersCardSaid : Prop := Claim7.holds Tryd.pinned (.plain (OpenSpec.ofChange sparseNumbersSpec)) sparseNumbersCard

/-- THE TIED CARD OF 'docketlaw8.SparseTwice'. -/
def sparseTwiceCard : Claim7 := { stood := { row := sparseTwiceRow, standIns := [], harness := (true, "621c28882997b7bd1c0b513c3846aa6e554d2fa4a329aaf814666b795a5cf57f"), looks := false }, kinds := [], alts := [], laidByText := true, laidKinds := [.data], laidTests := true, laidLooks := .later }
def SparseTwiceCardSaid : Prop := Claim7.holds Tryd.pinned (.plain (OpenSpec.ofChange sparseTwiceSpec)) sparseTwiceCard

/-- THE TIED CARD OF 'docketlaw8.SparseWalks'. -/
def sparseWalksCard : Claim7 := { stood := { row := sparseWalksRow, standIns := [], harness := (true, "621c28882997b7bd1c0b513c3846aa6e554d2fa4a329aaf814666b795a5cf57f"), looks := false }, kinds := [], alts := [], laidByText := true, laidKinds := [.data], laidTests := true, laidLooks := .later }
def SparseWalksCardSaid : Prop := Claim7.holds Tryd.pinned (.plain (OpenSpec.ofChange sparseWalksSpec)) sparseWalksCard

/-- THE TIED CARD OF 'docketlaw8.SparseProves'. -/
def sparseProvesCard : Claim7 := { stood := { row := sparseProvesRow, standIns := [], harness := (true, "621c28882997b7bd1c0b513c3846aa6e554d2fa4a329aaf814666b795a5cf57f"), looks := false }, kinds := [], alts := [], laidByText := true, laidKinds := [.data], laidTests := true, laidLooks := .later }
def SparseProvesCardSaid : Prop := Claim7.holds Tryd.pinned (.plain (OpenSpec.ofChange sparseProvesSpec)) sparseProvesCard

/-- THE TIED CARD OF 'docketlaw8.SparseOrder'. -/
def sparseOrderCard : Claim7 := { stood := { row := sparseOrderRow, standIns := [], harness := (true, "621c28882997b7bd1c0b513c3846aa6e554d2fa4a329aaf814666b795a5cf57f"), looks := false }, kinds := [], alts := [], laidByText := true, laidKinds := [.data], laidTests := true, laidLooks := .later }
def SparseOrderCardSaid : Prop := Claim7.holds Tryd.pinned (.plain (OpenSpec.ofChange sparseOrderSpec)) sparseOrderCard

/-- THE SECOND FORM's CARD OF 'docketlaw8.SparseChecks'. -/
def sparseChecksUptoCard : Claim7 := { stood := { row := sparseChecksUptoRow, standIns := [], harness := (true, "621c28882997b7bd1c0b513c3846aa6e554d2fa4a329aaf814666b795a5cf57f"), looks := false }, kinds := [], alts := [], laidByText := true, laidKinds := [.data], laidTests := true, laidLooks := .later }
def SparseChecksUptoCardSaid : Prop := Claim7.holds Tryd.pinned (.plain (OpenSpec.upto sparseChecksSpec)) sparseChecksUptoCard

/-- THE SECOND FORM's CARD OF 'docketlaw8.SparseNumbers'. -/
def sparseNumbersUptoCard : Claim7 := { stood := { row := sparseNumbersUptoRow, standIns := [], harness := (true, "621c28882997b7bd1c0b513c3846aa6e554d2fa4a329aaf814666b795a5cf57f"), looks := false }, kinds := [], alts := [], laidByText := true, laidKinds := [.data], laidTests := true, laidLooks := .later }
def SparseNumbersUptoCardSaid : Prop := Claim7.holds Tryd.pinned (.plain (OpenSpec.upto sparseNumbersSpec)) sparseNumbersUptoCard

/-- THE SECOND FORM's CARD OF 'docketlaw8.SparseTwice'. -/
def sparseTwiceUptoCard : Claim7 := { stood := { row := sparseTwiceUptoRow, standIns := [], harness := (true, "621c28882997b7bd1c0b513c3846aa6e554d2fa4a329aaf814666b795a5cf57f"), looks := false }, kinds := [], alts := [], laidByText := true, laidKinds := [.data], laidTests := true, laidLooks := .later }
def SparseTwiceUptoCardSaid : Prop := Claim7.holds Tryd.pinned (.plain (OpenSpec.upto sparseTwiceSpec)) sparseTwiceUptoCard

/-- THE SECOND FORM's CARD OF 'docketlaw8.SparseWalks'. -/
def sparseWalksUptoCard : Claim7 := { stood := { row := sparseWalksUptoRow, standIns := [], harness := (true, "621c28882997b7bd1c0b513c3846aa6e554d2fa4a329aaf814666b795a5cf57f"), looks := false }, kinds := [], alts := [], laidByText := true, laidKinds := [.data], laidTests := true, laidLooks := .later }
def SparseWalksUptoCardSaid : Prop := Claim7.holds Tryd.pinned (.plain (OpenSpec.upto sparseWalksSpec)) sparseWalksUptoCard

/-- THE SECOND FORM's CARD OF 'docketlaw8.SparseProves'. -/
def sparseProvesUptoCard : Claim7 := { stood := { row := sparseProvesUptoRow, standIns := [], harness := (true, "621c28882997b7bd1c0b513c3846aa6e554d2fa4a329aaf814666b795a5cf57f"), looks := false }, kinds := [], alts := [], laidByText := true, laidKinds := [.data], laidTests := true, laidLooks := .later }
def SparseProvesUptoCardSaid : Prop := Claim7.holds Tryd.pinned (.plain (OpenSpec.upto sparseProvesSpec)) sparseProvesUptoCard

/-- THE SECOND FORM's CARD OF 'docketlaw8.SparseOrder'. -/
def sparseOrderUptoCard : Claim7 := { stood := { row := sparseOrderUptoRow, standIns := [], harness := (true, "621c28882997b7bd1c0b513c3846aa6e554d2fa4a329aaf814666b795a5cf57f"), looks := false }, kinds := [], alts := [], laidByText := true, laidKinds := [.data], laidTests := true, laidLooks := .later }
def SparseOrderUptoCardSaid : Prop := Claim7.holds Tryd.pinned (.plain (OpenSpec.upto sparseOrderSpec)) sparseOrderUptoCard
end Rows
end Go.Proofs.YtpomngkcfbnjoaaDoor
