/-
  NARROWER THAN 'FOR EVERY INPUT', by the rows' own cells (each row's printed sentence says how): EventEncodes: laid · EventDecodes: laid · EventBack: laid · EventApart: laid · EventTells: laid · EventOrders: laid · EventKept: laid · EventValues: laid · EventStates: laid · EventTables: laid · EventChains: laid.
  DERIVED. THE GIVEN ROWS OF THIS SEAT. 11 by the template 'for every input the law returns true; each argument reads behind the call as it read before'; 0 by the template 'total and deterministic' (their statements: YtepbmdlgdaedpaaGreatDoorTotals.lean).
  GIVEN WITH THE SEED: the statements are not yours to turn. If you find one false, say at which input.
  Laid BY PROGRAM, IN A SANDBOX (cutbox-rows.mjs): the forced cells as the released guide's own fill.sh prints them over the translation 3b7fc92e9eadaf35… (all of the seat's roots in one cut). By AI agents, Wed Nov 11 2026. No macro, syntax, notation, axiom, sorry.
-/
import Derived.Test.YtepbmdlgdaedpaaGreatDoorChecked
import GoSem.Claim
import GoSem.ClaimJoined
import GoSem.ClaimMapViews
import Derived.JoinedTies
import Derived.KernelRfl
namespace Go.Proofs.YtepbmdlgdaedpaaGreatDoor
/- THE CELL 'sum', in the pinned program and in every row, IS THE sha256 OF THE DUMP (.gsa) THAT YtepbmdlgdaedpaaGreatDoorProg.lean LOADS. Nothing in Lean hashes anything: it is a label: what it is worth is what the hold of that sum in a sandbox is worth. -/
noncomputable def Tryz.pinned : Pinned := { name := "ytepbmdlgdaedpaagreatdoor", sum := "3b7fc92e9eadaf35ac8dd43ea81cff6d4df873d1fa3bf7da1ce6d50b16701456", checked := Tryz.checked }
namespace Rows
def none {H : Type} : Left H := { results := [], args := [] }

/- WHAT THE LISTED PACKAGE-LEVEL VARIABLES READ AS WHEN THE CALL BEGINS. Each datum BY PROGRAM (the guide's laid-datum.mjs) off the statement by which the dump's own 'gosem.cut.vars' lays the variable. In a bare row this is a premise. The card (YtepbmdlgdaedpaaGreatDoorCards.lean) ties it to the program's text. -/
def laid_docket_docketref9_reserved {H : Type} : DataW H := .agg [.lit (.string [116, 121, 112, 101]), .lit (.string [97, 116, 116, 114, 105, 98, 117, 116, 101]), .lit (.string [115, 116, 97, 103, 101]), .lit (.string [109, 105, 108, 101, 115, 116, 111, 110, 101]), .lit (.string [115, 116, 101, 112]), .lit (.string [105, 110]), .lit (.string [111, 112, 101, 110, 115]), .lit (.string [99, 108, 111, 115, 101, 115]), .lit (.string [114, 101, 97, 99, 104, 101, 100]), .lit (.string [119, 104, 101, 110]), .lit (.string [114, 101, 111, 112, 101, 110]), .lit (.string [105, 110, 116]), .lit (.string [98, 111, 111, 108]), .lit (.string [116, 101, 120, 116]), .lit (.string [116, 105, 109, 101]), .lit (.string [115, 101, 116]), .lit (.string [111, 112, 116, 105, 111, 110, 97, 108]), .lit (.string [105, 102]), .lit (.string [116, 104, 101, 110]), .lit (.string [101, 108, 115, 101]), .lit (.string [111, 114]), .lit (.string [97, 110, 100]), .lit (.string [110, 111, 116]), .lit (.string [116, 114, 117, 101]), .lit (.string [102, 97, 108, 115, 101]), .lit (.string [110, 111, 116, 104, 105, 110, 103]), .lit (.string [104, 97, 115]), .lit (.string [115, 105, 122, 101]), .lit (.string [106, 111, 105, 110]), .lit (.string [111, 112, 101, 110]), .lit (.string [99, 108, 111, 99, 107]), .lit (.string [115, 116, 101, 112, 115]), .lit (.string [109, 105, 110]), .lit (.string [109, 97, 120]), .lit (.string [100, 101, 102, 97, 117, 108, 116])]
def laid_docket_text_reserved {H : Type} : DataW H := .agg [.lit (.string [116, 121, 112, 101]), .lit (.string [97, 116, 116, 114, 105, 98, 117, 116, 101]), .lit (.string [115, 116, 97, 103, 101]), .lit (.string [109, 105, 108, 101, 115, 116, 111, 110, 101]), .lit (.string [115, 116, 101, 112]), .lit (.string [105, 110]), .lit (.string [111, 112, 101, 110, 115]), .lit (.string [99, 108, 111, 115, 101, 115]), .lit (.string [114, 101, 97, 99, 104, 101, 100]), .lit (.string [119, 104, 101, 110]), .lit (.string [114, 101, 111, 112, 101, 110]), .lit (.string [105, 110, 116]), .lit (.string [98, 111, 111, 108]), .lit (.string [116, 101, 120, 116]), .lit (.string [116, 105, 109, 101]), .lit (.string [115, 101, 116]), .lit (.string [111, 112, 116, 105, 111, 110, 97, 108]), .lit (.string [105, 102]), .lit (.string [116, 104, 101, 110]), .lit (.string [101, 108, 115, 101]), .lit (.string [111, 114]), .lit (.string [97, 110, 100]), .lit (.string [110, 111, 116]), .lit (.string [116, 114, 117, 101]), .lit (.string [102, 97, 108, 115, 101]), .lit (.string [110, 111, 116, 104, 105, 110, 103]), .lit (.string [104, 97, 115]), .lit (.string [115, 105, 122, 101]), .lit (.string [106, 111, 105, 110]), .lit (.string [111, 112, 101, 110]), .lit (.string [99, 108, 111, 99, 107]), .lit (.string [115, 116, 101, 112, 115]), .lit (.string [109, 105, 110]), .lit (.string [109, 97, 120]), .lit (.string [100, 101, 102, 97, 117, 108, 116])]
def laid_docket_digest_round {H : Type} : DataW H := .agg [.lit (.int .u32 1116352408), .lit (.int .u32 1899447441), .lit (.int .u32 3049323471), .lit (.int .u32 3921009573), .lit (.int .u32 961987163), .lit (.int .u32 1508970993), .lit (.int .u32 2453635748), .lit (.int .u32 2870763221), .lit (.int .u32 3624381080), .lit (.int .u32 310598401), .lit (.int .u32 607225278), .lit (.int .u32 1426881987), .lit (.int .u32 1925078388), .lit (.int .u32 2162078206), .lit (.int .u32 2614888103), .lit (.int .u32 3248222580), .lit (.int .u32 3835390401), .lit (.int .u32 4022224774), .lit (.int .u32 264347078), .lit (.int .u32 604807628), .lit (.int .u32 770255983), .lit (.int .u32 1249150122), .lit (.int .u32 1555081692), .lit (.int .u32 1996064986), .lit (.int .u32 2554220882), .lit (.int .u32 2821834349), .lit (.int .u32 2952996808), .lit (.int .u32 3210313671), .lit (.int .u32 3336571891), .lit (.int .u32 3584528711), .lit (.int .u32 113926993), .lit (.int .u32 338241895), .lit (.int .u32 666307205), .lit (.int .u32 773529912), .lit (.int .u32 1294757372), .lit (.int .u32 1396182291), .lit (.int .u32 1695183700), .lit (.int .u32 1986661051), .lit (.int .u32 2177026350), .lit (.int .u32 2456956037), .lit (.int .u32 2730485921), .lit (.int .u32 2820302411), .lit (.int .u32 3259730800), .lit (.int .u32 3345764771), .lit (.int .u32 3516065817), .lit (.int .u32 3600352804), .lit (.int .u32 4094571909), .lit (.int .u32 275423344), .lit (.int .u32 430227734), .lit (.int .u32 506948616), .lit (.int .u32 659060556), .lit (.int .u32 883997877), .lit (.int .u32 958139571), .lit (.int .u32 1322822218), .lit (.int .u32 1537002063), .lit (.int .u32 1747873779), .lit (.int .u32 1955562222), .lit (.int .u32 2024104815), .lit (.int .u32 2227730452), .lit (.int .u32 2361852424), .lit (.int .u32 2428436474), .lit (.int .u32 2756734187), .lit (.int .u32 3204031479), .lit (.int .u32 3329325298)]

/-- 'docketlaw14.EventEncodes': WHATEVER THE INPUT: true; the input reads as it did. -/
def eventEncodesSpec : ChangeSpec := { name := "eventEncodes", fn := fun _ => fun
  | [d1, d2] => { results := [.lit (.bool true)], args := [d1, d2] }
  | _ => none }
def eventEncodesRow : OpenClaim := { program := "ytepbmdlgdaedpaagreatdoor", sum := "3b7fc92e9eadaf35ac8dd43ea81cff6d4df873d1fa3bf7da1ce6d50b16701456", func := "docket/docketlaw14.EventEncodes", spec := "eventEncodes", inPlace := ["internal/reflectlite.ValueOf", "internal/reflectlite.Swapper", "(internal/reflectlite.Value).Len"], unfollowed := true, recurses := true, named := ["docket/text.reserved", "docket/docketref9.reserved"], apart := false, laid := [("docket/docketref9.reserved", laid_docket_docketref9_reserved), ("docket/text.reserved", laid_docket_text_reserved)] }
def EventEncodesSaid : Prop := eventEncodesRow.holds Tryz.pinned (OpenSpec.ofChange eventEncodesSpec)

/-- ITS FALSE NEIGHBOUR: 'it returns false'. Refute it at one input. -/
def eventEncodesWrong : ChangeSpec := { name := "eventEncodes", fn := fun _ => fun
  | [d1, d2] => { results := [.lit (.bool false)], args := [d1, d2] }
  | _ => none }
def EventEncodesWrongFalsely : Prop := eventEncodesRow.holds Tryz.pinned (OpenSpec.ofChange eventEncodesWrong)

/-- 'docketlaw14.EventDecodes': WHATEVER THE INPUT: true; the input reads as it did. -/
def eventDecodesSpec : ChangeSpec := { name := "eventDecodes", fn := fun _ => fun
  | [d1, d2] => { results := [.lit (.bool true)], args := [d1, d2] }
  | _ => none }
def eventDecodesRow : OpenClaim := { program := "ytepbmdlgdaedpaagreatdoor", sum := "3b7fc92e9eadaf35ac8dd43ea81cff6d4df873d1fa3bf7da1ce6d50b16701456", func := "docket/docketlaw14.EventDecodes", spec := "eventDecodes", inPlace := ["internal/reflectlite.ValueOf", "internal/reflectlite.Swapper", "(internal/reflectlite.Value).Len"], unfollowed := true, recurses := true, named := ["docket/text.reserved", "docket/docketref9.reserved"], apart := false, laid := [("docket/docketref9.reserved", laid_docket_docketref9_reserved), ("docket/text.reserved", laid_docket_text_reserved)] }
def EventDecodesSaid : Prop := eventDecodesRow.holds Tryz.pinned (OpenSpec.ofChange eventDecodesSpec)

/-- ITS FALSE NEIGHBOUR: 'it returns false'. Refute it at one input. -/
def eventDecodesWrong : ChangeSpec := { name := "eventDecodes", fn := fun _ => fun
  | [d1, d2] => { results := [.lit (.bool false)], args := [d1, d2] }
  | _ => none }
def EventDecodesWrongFalsely : Prop := eventDecodesRow.holds Tryz.pinned (OpenSpec.ofChange eventDecodesWrong)

/-- 'docketlaw14.EventBack': WHATEVER THE INPUT: true; the input reads as it did. -/
def eventBackSpec : ChangeSpec := { name := "eventBack", fn := fun _ => fun
  | [d1, d2] => { results := [.lit (.bool true)], args := [d1, d2] }
  | _ => none }
def eventBackRow : OpenClaim := { program := "ytepbmdlgdaedpaagreatdoor", sum := "3b7fc92e9eadaf35ac8dd43ea81cff6d4df873d1fa3bf7da1ce6d50b16701456", func := "docket/docketlaw14.EventBack", spec := "eventBack", inPlace := ["internal/reflectlite.ValueOf", "internal/reflectlite.Swapper", "(internal/reflectlite.Value).Len"], unfollowed := true, recurses := true, named := ["docket/text.reserved"], apart := false, laid := [("docket/text.reserved", laid_docket_text_reserved)] }
def EventBackSaid : Prop := eventBackRow.holds Tryz.pinned (OpenSpec.ofChange eventBackSpec)

/-- ITS FALSE NEIGHBOUR: 'it returns false'. Refute it at one input. -/
def eventBackWrong : ChangeSpec := { name := "eventBack", fn := fun _ => fun
  | [d1, d2] => { results := [.lit (.bool false)], args := [d1, d2] }
  | _ => none }
def EventBackWrongFalsely : Prop := eventBackRow.holds Tryz.pinned (OpenSpec.ofChange eventBackWrong)

/-- 'docketlaw14.EventApart': WHATEVER THE INPUT: true; the input reads as it did. -/
def eventApartSpec : ChangeSpec := { name := "eventApart", fn := fun _ => fun
  | [d1, d2, d3, d4] => { results := [.lit (.bool true)], args := [d1, d2, d3, d4] }
  | _ => none }
def eventApartRow : OpenClaim := { program := "ytepbmdlgdaedpaagreatdoor", sum := "3b7fc92e9eadaf35ac8dd43ea81cff6d4df873d1fa3bf7da1ce6d50b16701456", func := "docket/docketlaw14.EventApart", spec := "eventApart", inPlace := ["internal/reflectlite.ValueOf", "internal/reflectlite.Swapper", "(internal/reflectlite.Value).Len"], unfollowed := true, recurses := true, named := ["docket/text.reserved"], apart := false, laid := [("docket/text.reserved", laid_docket_text_reserved)] }
def EventApartSaid : Prop := eventApartRow.holds Tryz.pinned (OpenSpec.ofChange eventApartSpec)

/-- ITS FALSE NEIGHBOUR: 'it returns false'. Refute it at one input. -/
def eventApartWrong : ChangeSpec := { name := "eventApart", fn := fun _ => fun
  | [d1, d2, d3, d4] => { results := [.lit (.bool false)], args := [d1, d2, d3, d4] }
  | _ => none }
def EventApartWrongFalsely : Prop := eventApartRow.holds Tryz.pinned (OpenSpec.ofChange eventApartWrong)

/-- 'docketlaw14.EventTells': WHATEVER THE INPUT: true; the input reads as it did. -/
def eventTellsSpec : ChangeSpec := { name := "eventTells", fn := fun _ => fun
  | [d1, d2, d3, d4, d5, d6, d7] => { results := [.lit (.bool true)], args := [d1, d2, d3, d4, d5, d6, d7] }
  | _ => none }
def eventTellsRow : OpenClaim := { program := "ytepbmdlgdaedpaagreatdoor", sum := "3b7fc92e9eadaf35ac8dd43ea81cff6d4df873d1fa3bf7da1ce6d50b16701456", func := "docket/docketlaw14.EventTells", spec := "eventTells", inPlace := ["internal/reflectlite.ValueOf", "internal/reflectlite.Swapper", "(internal/reflectlite.Value).Len"], unfollowed := true, recurses := true, named := ["docket/text.reserved"], apart := false, laid := [("docket/text.reserved", laid_docket_text_reserved)] }
def EventTellsSaid : Prop := eventTellsRow.holds Tryz.pinned (OpenSpec.ofChange eventTellsSpec)

/-- ITS FALSE NEIGHBOUR: 'it returns false'. Refute it at one input. -/
def eventTellsWrong : ChangeSpec := { name := "eventTells", fn := fun _ => fun
  | [d1, d2, d3, d4, d5, d6, d7] => { results := [.lit (.bool false)], args := [d1, d2, d3, d4, d5, d6, d7] }
  | _ => none }
def EventTellsWrongFalsely : Prop := eventTellsRow.holds Tryz.pinned (OpenSpec.ofChange eventTellsWrong)

/-- 'docketlaw14.EventOrders': WHATEVER THE INPUT: true; the input reads as it did. -/
def eventOrdersSpec : ChangeSpec := { name := "eventOrders", fn := fun _ => fun
  | [d1, d2, d3, d4, d5] => { results := [.lit (.bool true)], args := [d1, d2, d3, d4, d5] }
  | _ => none }
def eventOrdersRow : OpenClaim := { program := "ytepbmdlgdaedpaagreatdoor", sum := "3b7fc92e9eadaf35ac8dd43ea81cff6d4df873d1fa3bf7da1ce6d50b16701456", func := "docket/docketlaw14.EventOrders", spec := "eventOrders", inPlace := ["internal/reflectlite.ValueOf", "internal/reflectlite.Swapper", "(internal/reflectlite.Value).Len"], unfollowed := true, recurses := true, named := ["docket/text.reserved"], apart := false, laid := [("docket/text.reserved", laid_docket_text_reserved)] }
def EventOrdersSaid : Prop := eventOrdersRow.holds Tryz.pinned (OpenSpec.ofChange eventOrdersSpec)

/-- ITS FALSE NEIGHBOUR: 'it returns false'. Refute it at one input. -/
def eventOrdersWrong : ChangeSpec := { name := "eventOrders", fn := fun _ => fun
  | [d1, d2, d3, d4, d5] => { results := [.lit (.bool false)], args := [d1, d2, d3, d4, d5] }
  | _ => none }
def EventOrdersWrongFalsely : Prop := eventOrdersRow.holds Tryz.pinned (OpenSpec.ofChange eventOrdersWrong)

/-- 'docketlaw14.EventKept': WHATEVER THE INPUT: true; the input reads as it did. -/
def eventKeptSpec : ChangeSpec := { name := "eventKept", fn := fun _ => fun
  | [d1, d2] => { results := [.lit (.bool true)], args := [d1, d2] }
  | _ => none }
def eventKeptRow : OpenClaim := { program := "ytepbmdlgdaedpaagreatdoor", sum := "3b7fc92e9eadaf35ac8dd43ea81cff6d4df873d1fa3bf7da1ce6d50b16701456", func := "docket/docketlaw14.EventKept", spec := "eventKept", inPlace := ["internal/reflectlite.ValueOf", "internal/reflectlite.Swapper", "(internal/reflectlite.Value).Len"], unfollowed := true, recurses := true, named := ["docket/text.reserved"], apart := false, laid := [("docket/text.reserved", laid_docket_text_reserved)] }
def EventKeptSaid : Prop := eventKeptRow.holds Tryz.pinned (OpenSpec.ofChange eventKeptSpec)

/-- ITS FALSE NEIGHBOUR: 'it returns false'. Refute it at one input. -/
def eventKeptWrong : ChangeSpec := { name := "eventKept", fn := fun _ => fun
  | [d1, d2] => { results := [.lit (.bool false)], args := [d1, d2] }
  | _ => none }
def EventKeptWrongFalsely : Prop := eventKeptRow.holds Tryz.pinned (OpenSpec.ofChange eventKeptWrong)

/-- 'docketlaw14.EventValues': WHATEVER THE INPUT: true; the input reads as it did. -/
def eventValuesSpec : ChangeSpec := { name := "eventValues", fn := fun _ => fun
  | [d1, d2, d3] => { results := [.lit (.bool true)], args := [d1, d2, d3] }
  | _ => none }
def eventValuesRow : OpenClaim := { program := "ytepbmdlgdaedpaagreatdoor", sum := "3b7fc92e9eadaf35ac8dd43ea81cff6d4df873d1fa3bf7da1ce6d50b16701456", func := "docket/docketlaw14.EventValues", spec := "eventValues", inPlace := ["internal/reflectlite.ValueOf", "internal/reflectlite.Swapper", "(internal/reflectlite.Value).Len"], unfollowed := true, recurses := true, named := ["docket/text.reserved"], apart := false, laid := [("docket/text.reserved", laid_docket_text_reserved)] }
def EventValuesSaid : Prop := eventValuesRow.holds Tryz.pinned (OpenSpec.ofChange eventValuesSpec)

/-- ITS FALSE NEIGHBOUR: 'it returns false'. Refute it at one input. -/
def eventValuesWrong : ChangeSpec := { name := "eventValues", fn := fun _ => fun
  | [d1, d2, d3] => { results := [.lit (.bool false)], args := [d1, d2, d3] }
  | _ => none }
def EventValuesWrongFalsely : Prop := eventValuesRow.holds Tryz.pinned (OpenSpec.ofChange eventValuesWrong)

/-- 'docketlaw14.EventStates': WHATEVER THE INPUT: true; the input reads as it did. -/
def eventStatesSpec : ChangeSpec := { name := "eventStates", fn := fun _ => fun
  | [d1, d2, d3, d4, d5] => { results := [.lit (.bool true)], args := [d1, d2, d3, d4, d5] }
  | _ => none }
def eventStatesRow : OpenClaim := { program := "ytepbmdlgdaedpaagreatdoor", sum := "3b7fc92e9eadaf35ac8dd43ea81cff6d4df873d1fa3bf7da1ce6d50b16701456", func := "docket/docketlaw14.EventStates", spec := "eventStates", inPlace := ["internal/reflectlite.ValueOf", "internal/reflectlite.Swapper", "(internal/reflectlite.Value).Len"], unfollowed := true, recurses := true, named := ["docket/text.reserved", "docket/docketref9.reserved", "docket/digest.round"], apart := false, laid := [("docket/docketref9.reserved", laid_docket_docketref9_reserved), ("docket/digest.round", laid_docket_digest_round), ("docket/text.reserved", laid_docket_text_reserved)] }
def EventStatesSaid : Prop := eventStatesRow.holds Tryz.pinned (OpenSpec.ofChange eventStatesSpec)

/-- ITS FALSE NEIGHBOUR: 'it returns false'. Refute it at one input. -/
def eventStatesWrong : ChangeSpec := { name := "eventStates", fn := fun _ => fun
  | [d1, d2, d3, d4, d5] => { results := [.lit (.bool false)], args := [d1, d2, d3, d4, d5] }
  | _ => none }
def EventStatesWrongFalsely : Prop := eventStatesRow.holds Tryz.pinned (OpenSpec.ofChange eventStatesWrong)

/-- 'docketlaw14.EventTables': WHATEVER THE INPUT: true; the input reads as it did. -/
def eventTablesSpec : ChangeSpec := { name := "eventTables", fn := fun _ => fun
  | [d1, d2, d3, d4] => { results := [.lit (.bool true)], args := [d1, d2, d3, d4] }
  | _ => none }
def eventTablesRow : OpenClaim := { program := "ytepbmdlgdaedpaagreatdoor", sum := "3b7fc92e9eadaf35ac8dd43ea81cff6d4df873d1fa3bf7da1ce6d50b16701456", func := "docket/docketlaw14.EventTables", spec := "eventTables", inPlace := ["internal/reflectlite.ValueOf", "internal/reflectlite.Swapper", "(internal/reflectlite.Value).Len"], unfollowed := true, recurses := true, named := ["docket/text.reserved", "docket/docketref9.reserved", "docket/digest.round"], apart := false, laid := [("docket/docketref9.reserved", laid_docket_docketref9_reserved), ("docket/digest.round", laid_docket_digest_round), ("docket/text.reserved", laid_docket_text_reserved)] }
def EventTablesSaid : Prop := eventTablesRow.holds Tryz.pinned (OpenSpec.ofChange eventTablesSpec)

/-- ITS FALSE NEIGHBOUR: 'it returns false'. Refute it at one input. -/
def eventTablesWrong : ChangeSpec := { name := "eventTables", fn := fun _ => fun
  | [d1, d2, d3, d4] => { results := [.lit (.bool false)], args := [d1, d2, d3, d4] }
  | _ => none }
def EventTablesWrongFalsely : Prop := eventTablesRow.holds Tryz.pinned (OpenSpec.ofChange eventTablesWrong)

/-- 'docketlaw14.EventChains': WHATEVER THE INPUT: true; the input reads as it did. -/
def eventChainsSpec : ChangeSpec := { name := "eventChains", fn := fun _ => fun
  | [d1, d2, d3] => { results := [.lit (.bool true)], args := [d1, d2, d3] }
  | _ => none }
def eventChainsRow : OpenClaim := { program := "ytepbmdlgdaedpaagreatdoor", sum := "3b7fc92e9eadaf35ac8dd43ea81cff6d4df873d1fa3bf7da1ce6d50b16701456", func := "docket/docketlaw14.EventChains", spec := "eventChains", inPlace := ["internal/reflectlite.ValueOf", "internal/reflectlite.Swapper", "(internal/reflectlite.Value).Len"], unfollowed := true, recurses := true, named := ["docket/digest.round", "docket/text.reserved"], apart := false, laid := [("docket/digest.round", laid_docket_digest_round), ("docket/text.reserved", laid_docket_text_reserved)] }
def EventChainsSaid : Prop := eventChainsRow.holds Tryz.pinned (OpenSpec.ofChange eventChainsSpec)

/-- ITS FALSE NEIGHBOUR: 'it returns false'. Refute it at one input. -/
def eventChainsWrong : ChangeSpec := { name := "eventChains", fn := fun _ => fun
  | [d1, d2, d3] => { results := [.lit (.bool false)], args := [d1, d2, d3] }
  | _ => none }
def EventChainsWrongFalsely : Prop := eventChainsRow.holds Tryz.pinned (OpenSpec.ofChange eventChainsWrong)

/- THE SECOND FORM. 'bulk': how many values and letters a reading holds, each counted each time it is reached (what is shared counts as often as it is met; a slice's spare places count too). A statement '..UptoSaid' is the law's where the arguments, and the package variables that the reading takes, are together of bulk at most 1048576: NARROWER than '..Said'. Prove '..Said' where nothing that the law and all that it calls make is longer than what came in: it says more and counts as full. Else prove '..UptoSaid'. A law counts once. -/
mutual
def uptoBulk {H : Type} : DataW H → Nat
  | .lit (.string bytes) => bytes.length + 1
  | .lit _ => 1
  | .nil => 1
  | .ptr d => uptoBulk d + 1
  | .slice elems spare => uptoBulkAll elems + uptoBulkAll spare + 1
  | .agg parts => uptoBulkAll parts + 1
  | .iface _ d => uptoBulk d + 1
  | .map entries => uptoBulkEntries entries + 1
  | .held _ => 1
def uptoBulkAll {H : Type} : List (DataW H) → Nat
  | [] => 0
  | d :: r => uptoBulk d + uptoBulkAll r
def uptoBulkEntries {H : Type} : List (Lit × DataW H) → Nat
  | [] => 0
  | x :: r => uptoBulkEntry x + uptoBulkEntries r
def uptoBulkEntry {H : Type} : Lit × DataW H → Nat
  | (.string bytes, d) => bytes.length + uptoBulk d + 1
  | (_, d) => uptoBulk d + 1
 end
def uptoSmall : (H : Type) → List (DataW H) → Bool := fun _ ds => decide (uptoBulkAll ds ≤ 1048576)
def OpenSpec.upto (s : _root_.Go.ChangeSpec) : _root_.Go.OpenSpec := { _root_.Go.OpenSpec.ofChange s with cond := some uptoSmall }

/-- 'docketlaw14.EventEncodes', WHERE WHAT IT READS IS OF BULK AT MOST 1048576: true; the input reads as it did. -/
def eventEncodesUptoRow : OpenClaim := { program := "ytepbmdlgdaedpaagreatdoor", sum := "3b7fc92e9eadaf35ac8dd43ea81cff6d4df873d1fa3bf7da1ce6d50b16701456", func := "docket/docketlaw14.EventEncodes", spec := "eventEncodes", inPlace := ["internal/reflectlite.ValueOf", "internal/reflectlite.Swapper", "(internal/reflectlite.Value).Len"], unfollowed := true, recurses := true, named := ["docket/text.reserved", "docket/docketref9.reserved"], apart := false, laid := [("docket/docketref9.reserved", laid_docket_docketref9_reserved), ("docket/text.reserved", laid_docket_text_reserved)], narrowed := true }
def EventEncodesUptoSaid : Prop := eventEncodesUptoRow.holds Tryz.pinned (OpenSpec.upto eventEncodesSpec)

/-- 'docketlaw14.EventDecodes', WHERE WHAT IT READS IS OF BULK AT MOST 1048576: true; the input reads as it did. -/
def eventDecodesUptoRow : OpenClaim := { program := "ytepbmdlgdaedpaagreatdoor", sum := "3b7fc92e9eadaf35ac8dd43ea81cff6d4df873d1fa3bf7da1ce6d50b16701456", func := "docket/docketlaw14.EventDecodes", spec := "eventDecodes", inPlace := ["internal/reflectlite.ValueOf", "internal/reflectlite.Swapper", "(internal/reflectlite.Value).Len"], unfollowed := true, recurses := true, named := ["docket/text.reserved", "docket/docketref9.reserved"], apart := false, laid := [("docket/docketref9.reserved", laid_docket_docketref9_reserved), ("docket/text.reserved", laid_docket_text_reserved)], narrowed := true }
def EventDecodesUptoSaid : Prop := eventDecodesUptoRow.holds Tryz.pinned (OpenSpec.upto eventDecodesSpec)

/-- 'docketlaw14.EventBack', WHERE WHAT IT READS IS OF BULK AT MOST 1048576: true; the input reads as it did. -/
def eventBackUptoRow : OpenClaim := { program := "ytepbmdlgdaedpaagreatdoor", sum := "3b7fc92e9eadaf35ac8dd43ea81cff6d4df873d1fa3bf7da1ce6d50b16701456", func := "docket/docketlaw14.EventBack", spec := "eventBack", inPlace := ["internal/reflectlite.ValueOf", "internal/reflectlite.Swapper", "(internal/reflectlite.Value).Len"], unfollowed := true, recurses := true, named := ["docket/text.reserved"], apart := false, laid := [("docket/text.reserved", laid_docket_text_reserved)], narrowed := true }
def EventBackUptoSaid : Prop := eventBackUptoRow.holds Tryz.pinned (OpenSpec.upto eventBackSpec)

/-- 'docketlaw14.EventApart', WHERE WHAT IT READS IS OF BULK AT MOST 1048576: true; the input reads as it did. -/
def eventApartUptoRow : OpenClaim := { program := "ytepbmdlgdaedpaagreatdoor", sum := "3b7fc92e9eadaf35ac8dd43ea81cff6d4df873d1fa3bf7da1ce6d50b16701456", func := "docket/docketlaw14.EventApart", spec := "eventApart", inPlace := ["internal/reflectlite.ValueOf", "internal/reflectlite.Swapper", "(internal/reflectlite.Value).Len"], unfollowed := true, recurses := true, named := ["docket/text.reserved"], apart := false, laid := [("docket/text.reserved", laid_docket_text_reserved)], narrowed := true }
def EventApartUptoSaid : Prop := eventApartUptoRow.holds Tryz.pinned (OpenSpec.upto eventApartSpec)

/-- 'docketlaw14.EventTells', WHERE WHAT IT READS IS OF BULK AT MOST 1048576: true; the input reads as it did. -/
def eventTellsUptoRow : OpenClaim := { program := "ytepbmdlgdaedpaagreatdoor", sum := "3b7fc92e9eadaf35ac8dd43ea81cff6d4df873d1fa3bf7da1ce6d50b16701456", func := "docket/docketlaw14.EventTells", spec := "eventTells", inPlace := ["internal/reflectlite.ValueOf", "internal/reflectlite.Swapper", "(internal/reflectlite.Value).Len"], unfollowed := true, recurses := true, named := ["docket/text.reserved"], apart := false, laid := [("docket/text.reserved", laid_docket_text_reserved)], narrowed := true }
def EventTellsUptoSaid : Prop := eventTellsUptoRow.holds Tryz.pinned (OpenSpec.upto eventTellsSpec)

/-- 'docketlaw14.EventOrders', WHERE WHAT IT READS IS OF BULK AT MOST 1048576: true; the input reads as it did. -/
def eventOrdersUptoRow : OpenClaim := { program := "ytepbmdlgdaedpaagreatdoor", sum := "3b7fc92e9eadaf35ac8dd43ea81cff6d4df873d1fa3bf7da1ce6d50b16701456", func := "docket/docketlaw14.EventOrders", spec := "eventOrders", inPlace := ["internal/reflectlite.ValueOf", "internal/reflectlite.Swapper", "(internal/reflectlite.Value).Len"], unfollowed := true, recurses := true, named := ["docket/text.reserved"], apart := false, laid := [("docket/text.reserved", laid_docket_text_reserved)], narrowed := true }
def EventOrdersUptoSaid : Prop := eventOrdersUptoRow.holds Tryz.pinned (OpenSpec.upto eventOrdersSpec)

/-- 'docketlaw14.EventKept', WHERE WHAT IT READS IS OF BULK AT MOST 1048576: true; the input reads as it did. -/
def eventKeptUptoRow : OpenClaim := { program := "ytepbmdlgdaedpaagreatdoor", sum := "3b7fc92e9eadaf35ac8dd43ea81cff6d4df873d1fa3bf7da1ce6d50b16701456", func := "docket/docketlaw14.EventKept", spec := "eventKept", inPlace := ["internal/reflectlite.ValueOf", "internal/reflectlite.Swapper", "(internal/reflectlite.Value).Len"], unfollowed := true, recurses := true, named := ["docket/text.reserved"], apart := false, laid := [("docket/text.reserved", laid_docket_text_reserved)], narrowed := true }
def EventKeptUptoSaid : Prop := eventKeptUptoRow.holds Tryz.pinned (OpenSpec.upto eventKeptSpec)

/-- 'docketlaw14.EventValues', WHERE WHAT IT READS IS OF BULK AT MOST 1048576: true; the input reads as it did. -/
def eventValuesUptoRow : OpenClaim := { program := "ytepbmdlgdaedpaagreatdoor", sum := "3b7fc92e9eadaf35ac8dd43ea81cff6d4df873d1fa3bf7da1ce6d50b16701456", func := "docket/docketlaw14.EventValues", spec := "eventValues", inPlace := ["internal/reflectlite.ValueOf", "internal/reflectlite.Swapper", "(internal/reflectlite.Value).Len"], unfollowed := true, recurses := true, named := ["docket/text.reserved"], apart := false, laid := [("docket/text.reserved", laid_docket_text_reserved)], narrowed := true }
def EventValuesUptoSaid : Prop := eventValuesUptoRow.holds Tryz.pinned (OpenSpec.upto eventValuesSpec)

/-- 'docketlaw14.EventStates', WHERE WHAT IT READS IS OF BULK AT MOST 1048576: true; the input reads as it did. -/
def eventStatesUptoRow : OpenClaim := { program := "ytepbmdlgdaedpaagreatdoor", sum := "3b7fc92e9eadaf35ac8dd43ea81cff6d4df873d1fa3bf7da1ce6d50b16701456", func := "docket/docketlaw14.EventStates", spec := "eventStates", inPlace := ["internal/reflectlite.ValueOf", "internal/reflectlite.Swapper", "(internal/reflectlite.Value).Len"], unfollowed := true, recurses := true, named := ["docket/text.reserved", "docket/docketref9.reserved", "docket/digest.round"], apart := false, laid := [("docket/docketref9.reserved", laid_docket_docketref9_reserved), ("docket/digest.round", laid_docket_digest_round), ("docket/text.reserved", laid_docket_text_reserved)], narrowed := true }
def EventStatesUptoSaid : Prop := eventStatesUptoRow.holds Tryz.pinned (OpenSpec.upto eventStatesSpec)

/-- 'docketlaw14.EventTables', WHERE WHAT IT READS IS OF BULK AT MOST 1048576: true; the input reads as it did. -/
def eventTablesUptoRow : OpenClaim := { program := "ytepbmdlgdaedpaagreatdoor", sum := "3b7fc92e9eadaf35ac8dd43ea81cff6d4df873d1fa3bf7da1ce6d50b16701456", func := "docket/docketlaw14.EventTables", spec := "eventTables", inPlace := ["internal/reflectlite.ValueOf", "internal/reflectlite.Swapper", "(internal/reflectlite.Value).Len"], unfollowed := true, recurses := true, named := ["docket/text.reserved", "docket/docketref9.reserved", "docket/digest.round"], apart := false, laid := [("docket/docketref9.reserved", laid_docket_docketref9_reserved), ("docket/digest.round", laid_docket_digest_round), ("docket/text.reserved", laid_docket_text_reserved)], narrowed := true }
def EventTablesUptoSaid : Prop := eventTablesUptoRow.holds Tryz.pinned (OpenSpec.upto eventTablesSpec)

/-- 'docketlaw14.EventChains', WHERE WHAT IT READS IS OF BULK AT MOST 1048576: true; the input reads as it did. -/
def eventChainsUptoRow : OpenClaim := { program := "ytepbmdlgdaedpaagreatdoor", sum := "3b7fc92e9eadaf35ac8dd43ea81cff6d4df873d1fa3bf7da1ce6d50b16701456", func := "docket/docketlaw14.EventChains", spec := "eventChains", inPlace := ["internal/reflectlite.ValueOf", "internal/reflectlite.Swapper", "(internal/reflectlite.Value).Len"], unfollowed := true, recurses := true, named := ["docket/digest.round", "docket/text.reserved"], apart := false, laid := [("docket/digest.round", laid_docket_digest_round), ("docket/text.reserved", laid_docket_text_reserved)], narrowed := true }
def EventChainsUptoSaid : Prop := eventChainsUptoRow.holds Tryz.pinned (OpenSpec.upto eventChainsSpec)

end Rows
end Go.Proofs.YtepbmdlgdaedpaaGreatDoor
