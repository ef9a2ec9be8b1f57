/-
  No cell of these rows narrows 'for every input' (looked for: loops, veiled, ifaces, maps, wideKeys, modest, calm, conditions, laid).
  DERIVED. THE GIVEN ROWS OF THIS SEAT. 7 by the template 'for every input the law returns true; each argument reads behind the call as it read before'; 0 by the template 'total and deterministic' (their statements: YthphfbohhbkdgaaTotals.lean).
  GIVEN WITH THE SEED: the statements are not yours to turn. If you find one false, say at which input.
  Laid BY PROGRAM, IN A SANDBOX (cutbox-rows.mjs): the forced cells as the released guide's own fill.sh prints them over the translation 91cf3f0b1ae8b8c3… (all of the seat's roots in one cut). By AI agents, Wed Nov 11 2026. No macro, syntax, notation, axiom, sorry.
-/
import Derived.Test.YthphfbohhbkdgaaChecked
import GoSem.Claim
import GoSem.ClaimJoined
import GoSem.ClaimMapViews
import Derived.JoinedTies
import Derived.KernelRfl
namespace Go.Proofs.Ythphfbohhbkdgaa
/- THE CELL 'sum', in the pinned program and in every row, IS THE sha256 OF THE DUMP (.gsa) THAT YthphfbohhbkdgaaProg.lean LOADS. Nothing in Lean hashes anything: it is a label: what it is worth is what the hold of that sum in a sandbox is worth. -/
noncomputable def Try.pinned : Pinned := { name := "ythphfbohhbkdgaa", sum := "91cf3f0b1ae8b8c3518e03068440423b1a66e175f0ea6b3cfaed7daab8edbaf1", checked := Try.checked }
namespace Rows
def none {H : Type} : Left H := { results := [], args := [] }

/-- 'docketlaw1.OctetLegal': WHATEVER THE INPUT: true; the input reads as it did. -/
def octetLegalSpec : ChangeSpec := { name := "octetLegal", fn := fun _ => fun
  | [d1, d2] => { results := [.lit (.bool true)], args := [d1, d2] }
  | _ => none }
def octetLegalRow : OpenClaim := { program := "ythphfbohhbkdgaa", sum := "91cf3f0b1ae8b8c3518e03068440423b1a66e175f0ea6b3cfaed7daab8edbaf1", func := "docket/docketlaw1.OctetLegal", spec := "octetLegal", apart := false }
def OctetLegalSaid : Prop := octetLegalRow.holds Try.pinned (OpenSpec.ofChange octetLegalSpec)

/-- ITS FALSE NEIGHBOUR: 'it returns false'. Refute it at one input. -/
def octetLegalWrong : ChangeSpec := { name := "octetLegal", fn := fun _ => fun
  | [d1, d2] => { results := [.lit (.bool false)], args := [d1, d2] }
  | _ => none }
def OctetLegalWrongFalsely : Prop := octetLegalRow.holds Try.pinned (OpenSpec.ofChange octetLegalWrong)

/-- 'docketlaw1.OctetWrites': WHATEVER THE INPUT: true; the input reads as it did. -/
def octetWritesSpec : ChangeSpec := { name := "octetWrites", fn := fun _ => fun
  | [d] => { results := [.lit (.bool true)], args := [d] }
  | _ => none }
def octetWritesRow : OpenClaim := { program := "ythphfbohhbkdgaa", sum := "91cf3f0b1ae8b8c3518e03068440423b1a66e175f0ea6b3cfaed7daab8edbaf1", func := "docket/docketlaw1.OctetWrites", spec := "octetWrites", unfollowed := true, recurses := true, apart := false }
def OctetWritesSaid : Prop := octetWritesRow.holds Try.pinned (OpenSpec.ofChange octetWritesSpec)

/-- ITS FALSE NEIGHBOUR: 'it returns false'. Refute it at one input. -/
def octetWritesWrong : ChangeSpec := { name := "octetWrites", fn := fun _ => fun
  | [d] => { results := [.lit (.bool false)], args := [d] }
  | _ => none }
def OctetWritesWrongFalsely : Prop := octetWritesRow.holds Try.pinned (OpenSpec.ofChange octetWritesWrong)

/-- 'docketlaw1.OctetNames': WHATEVER THE INPUT: true; the input reads as it did. -/
def octetNamesSpec : ChangeSpec := { name := "octetNames", fn := fun _ => fun
  | [] => { results := [.lit (.bool true)], args := [] }
  | _ => none }
def octetNamesRow : OpenClaim := { program := "ythphfbohhbkdgaa", sum := "91cf3f0b1ae8b8c3518e03068440423b1a66e175f0ea6b3cfaed7daab8edbaf1", func := "docket/docketlaw1.OctetNames", spec := "octetNames", apart := false }
def OctetNamesSaid : Prop := octetNamesRow.holds Try.pinned (OpenSpec.ofChange octetNamesSpec)

/-- ITS FALSE NEIGHBOUR: 'it returns false'. Refute it at one input. -/
def octetNamesWrong : ChangeSpec := { name := "octetNames", fn := fun _ => fun
  | [] => { results := [.lit (.bool false)], args := [] }
  | _ => none }
def OctetNamesWrongFalsely : Prop := octetNamesRow.holds Try.pinned (OpenSpec.ofChange octetNamesWrong)

/-- 'docketlaw1.OctetReads': WHATEVER THE INPUT: true; the input reads as it did. -/
def octetReadsSpec : ChangeSpec := { name := "octetReads", fn := fun _ => fun
  | [d1, d2] => { results := [.lit (.bool true)], args := [d1, d2] }
  | _ => none }
def octetReadsRow : OpenClaim := { program := "ythphfbohhbkdgaa", sum := "91cf3f0b1ae8b8c3518e03068440423b1a66e175f0ea6b3cfaed7daab8edbaf1", func := "docket/docketlaw1.OctetReads", spec := "octetReads", unfollowed := true, recurses := true, apart := false }
def OctetReadsSaid : Prop := octetReadsRow.holds Try.pinned (OpenSpec.ofChange octetReadsSpec)

/-- ITS FALSE NEIGHBOUR: 'it returns false'. Refute it at one input. -/
def octetReadsWrong : ChangeSpec := { name := "octetReads", fn := fun _ => fun
  | [d1, d2] => { results := [.lit (.bool false)], args := [d1, d2] }
  | _ => none }
def OctetReadsWrongFalsely : Prop := octetReadsRow.holds Try.pinned (OpenSpec.ofChange octetReadsWrong)

/-- 'docketlaw1.OctetBack': WHATEVER THE INPUT: true; the input reads as it did. -/
def octetBackSpec : ChangeSpec := { name := "octetBack", fn := fun _ => fun
  | [d] => { results := [.lit (.bool true)], args := [d] }
  | _ => none }
def octetBackRow : OpenClaim := { program := "ythphfbohhbkdgaa", sum := "91cf3f0b1ae8b8c3518e03068440423b1a66e175f0ea6b3cfaed7daab8edbaf1", func := "docket/docketlaw1.OctetBack", spec := "octetBack", apart := false }
def OctetBackSaid : Prop := octetBackRow.holds Try.pinned (OpenSpec.ofChange octetBackSpec)

/-- ITS FALSE NEIGHBOUR: 'it returns false'. Refute it at one input. -/
def octetBackWrong : ChangeSpec := { name := "octetBack", fn := fun _ => fun
  | [d] => { results := [.lit (.bool false)], args := [d] }
  | _ => none }
def OctetBackWrongFalsely : Prop := octetBackRow.holds Try.pinned (OpenSpec.ofChange octetBackWrong)

/-- 'docketlaw1.OctetForth': WHATEVER THE INPUT: true; the input reads as it did. -/
def octetForthSpec : ChangeSpec := { name := "octetForth", fn := fun _ => fun
  | [d1, d2] => { results := [.lit (.bool true)], args := [d1, d2] }
  | _ => none }
def octetForthRow : OpenClaim := { program := "ythphfbohhbkdgaa", sum := "91cf3f0b1ae8b8c3518e03068440423b1a66e175f0ea6b3cfaed7daab8edbaf1", func := "docket/docketlaw1.OctetForth", spec := "octetForth", apart := false }
def OctetForthSaid : Prop := octetForthRow.holds Try.pinned (OpenSpec.ofChange octetForthSpec)

/-- ITS FALSE NEIGHBOUR: 'it returns false'. Refute it at one input. -/
def octetForthWrong : ChangeSpec := { name := "octetForth", fn := fun _ => fun
  | [d1, d2] => { results := [.lit (.bool false)], args := [d1, d2] }
  | _ => none }
def OctetForthWrongFalsely : Prop := octetForthRow.holds Try.pinned (OpenSpec.ofChange octetForthWrong)

/-- 'docketlaw1.OctetCuts': WHATEVER THE INPUT: true; the input reads as it did. -/
def octetCutsSpec : ChangeSpec := { name := "octetCuts", fn := fun _ => fun
  | [d1, d2] => { results := [.lit (.bool true)], args := [d1, d2] }
  | _ => none }
def octetCutsRow : OpenClaim := { program := "ythphfbohhbkdgaa", sum := "91cf3f0b1ae8b8c3518e03068440423b1a66e175f0ea6b3cfaed7daab8edbaf1", func := "docket/docketlaw1.OctetCuts", spec := "octetCuts", apart := false }
def OctetCutsSaid : Prop := octetCutsRow.holds Try.pinned (OpenSpec.ofChange octetCutsSpec)

/-- ITS FALSE NEIGHBOUR: 'it returns false'. Refute it at one input. -/
def octetCutsWrong : ChangeSpec := { name := "octetCuts", fn := fun _ => fun
  | [d1, d2] => { results := [.lit (.bool false)], args := [d1, d2] }
  | _ => none }
def OctetCutsWrongFalsely : Prop := octetCutsRow.holds Try.pinned (OpenSpec.ofChange octetCutsWrong)

/- THE SECOND FORM. 'bulk': how many values and letters a reading holds, each counted each time it is reached (what is shared counts as often as it is met; a slice's spare places count too). A statement '..UptoSaid' is the law's where the arguments, and the package variables that the reading takes, are together of bulk at most 1048576: NARROWER than '..Said'. Prove '..Said' where nothing that the law and all that it calls make is longer than what came in: it says more and counts as full. Else prove '..UptoSaid'. A law counts once. -/
mutual
def uptoBulk {H : Type} : DataW H → Nat
  | .lit (.string bytes) => bytes.length + 1
  | .lit _ => 1
  | .nil => 1
  | .ptr d => uptoBulk d + 1
  | .slice elems spare => uptoBulkAll elems + uptoBulkAll spare + 1
  | .agg parts => uptoBulkAll parts + 1
  | .iface _ d => uptoBulk d + 1
  | .map entries => uptoBulkEntries entries + 1
  | .held _ => 1
def uptoBulkAll {H : Type} : List (DataW H) → Nat
  | [] => 0
  | d :: r => uptoBulk d + uptoBulkAll r
def uptoBulkEntries {H : Type} : List (Lit × DataW H) → Nat
  | [] => 0
  | x :: r => uptoBulkEntry x + uptoBulkEntries r
def uptoBulkEntry {H : Type} : Lit × DataW H → Nat
  | (.string bytes, d) => bytes.length + uptoBulk d + 1
  | (_, d) => uptoBulk d + 1
 end
def uptoSmall : (H : Type) → List (DataW H) → Bool := fun _ ds => decide (uptoBulkAll ds ≤ 1048576)
def OpenSpec.upto (s : _root_.Go.ChangeSpec) : _root_.Go.OpenSpec := { _root_.Go.OpenSpec.ofChange s with cond := some uptoSmall }

/-- 'docketlaw1.OctetLegal', WHERE WHAT IT READS IS OF BULK AT MOST 1048576: true; the input reads as it did. -/
def octetLegalUptoRow : OpenClaim := { program := "ythphfbohhbkdgaa", sum := "91cf3f0b1ae8b8c3518e03068440423b1a66e175f0ea6b3cfaed7daab8edbaf1", func := "docket/docketlaw1.OctetLegal", spec := "octetLegal", apart := false, narrowed := true }
def OctetLegalUptoSaid : Prop := octetLegalUptoRow.holds Try.pinned (OpenSpec.upto octetLegalSpec)

/-- 'docketlaw1.OctetWrites', WHERE WHAT IT READS IS OF BULK AT MOST 1048576: true; the input reads as it did. -/
def octetWritesUptoRow : OpenClaim := { program := "ythphfbohhbkdgaa", sum := "91cf3f0b1ae8b8c3518e03068440423b1a66e175f0ea6b3cfaed7daab8edbaf1", func := "docket/docketlaw1.OctetWrites", spec := "octetWrites", unfollowed := true, recurses := true, apart := false, narrowed := true }
def OctetWritesUptoSaid : Prop := octetWritesUptoRow.holds Try.pinned (OpenSpec.upto octetWritesSpec)

/-- 'docketlaw1.OctetNames', WHERE WHAT IT READS IS OF BULK AT MOST 1048576: true; the input reads as it did. -/
def octetNamesUptoRow : OpenClaim := { program := "ythphfbohhbkdgaa", sum := "91cf3f0b1ae8b8c3518e03068440423b1a66e175f0ea6b3cfaed7daab8edbaf1", func := "docket/docketlaw1.OctetNames", spec := "octetNames", apart := false, narrowed := true }
def OctetNamesUptoSaid : Prop := octetNamesUptoRow.holds Try.pinned (OpenSpec.upto octetNamesSpec)

/-- 'docketlaw1.OctetReads', WHERE WHAT IT READS IS OF BULK AT MOST 1048576: true; the input reads as it did. -/
def octetReadsUptoRow : OpenClaim := { program := "ythphfbohhbkdgaa", sum := "91cf3f0b1ae8b8c3518e03068440423b1a66e175f0ea6b3cfaed7daab8edbaf1", func := "docket/docketlaw1.OctetReads", spec := "octetReads", unfollowed := true, recurses := true, apart := false, narrowed := true }
def OctetReadsUptoSaid : Prop := octetReadsUptoRow.holds Try.pinned (OpenSpec.upto octetReadsSpec)

/-- 'docketlaw1.OctetBack', WHERE WHAT IT READS IS OF BULK AT MOST 1048576: true; the input reads as it did. -/
def octetBackUptoRow : OpenClaim := { program := "ythphfbohhbkdgaa", sum := "91cf3f0b1ae8b8c3518e03068440423b1a66e175f0ea6b3cfaed7daab8edbaf1", func := "docket/docketlaw1.OctetBack", spec := "octetBack", apart := false, narrowed := true }
def OctetBackUptoSaid : Prop := octetBackUptoRow.holds Try.pinned (OpenSpec.upto octetBackSpec)

/-- 'docketlaw1.OctetForth', WHERE WHAT IT READS IS OF BULK AT MOST 1048576: true; the input reads as it did. -/
def octetForthUptoRow : OpenClaim := { program := "ythphfbohhbkdgaa", sum := "91cf3f0b1ae8b8c3518e03068440423b1a66e175f0ea6b3cfaed7daab8edbaf1", func := "docket/docketlaw1.OctetForth", spec := "octetForth", apart := false, narrowed := true }
def OctetForthUptoSaid : Prop := octetForthUptoRow.holds Try.pinned (OpenSpec.upto octetForthSpec)

/-- 'docketlaw1.OctetCuts', WHERE WHAT IT READS IS OF BULK AT MOST 1048576: true; the input reads as it did. -/
def octetCutsUptoRow : OpenClaim := { program := "ythphfbohhbkdgaa", sum := "91cf3f0b1ae8b8c3518e03068440423b1a66e175f0ea6b3cfaed7daab8edbaf1", func := "docket/docketlaw1.OctetCuts", spec := "octetCuts", apart := false, narrowed := true }
def OctetCutsUptoSaid : Prop := octetCutsUptoRow.holds Try.pinned (OpenSpec.upto octetCutsSpec)

end Rows
end Go.Proofs.Ythphfbohhbkdgaa
