/- Short names for facts that are used throughout: nothing is proved here that is not a name for something. -/
import Derived.WalkKit
import Derived.ProofKit
import Derived.Test.YtepbmdlgdaedpaaGreatDoorProg
/- Short names for facts that are used throughout: nothing is proved here that is not a name for something. -/
namespace Go.Dk
open Go Go.RowKit
theorem ae {P : Prop} (h : P := by decide) : P := h
theorem af {P : Prop} (h : P := by kernel_rfl) : P := h
theorem ag {P : Prop} (h : P := by omega) : P := h
theorem ah {P : Prop} (h : P := by rfl) : P := h
theorem ai {n m : Nat} (h : Nat.ble n m = true := by rfl) : n ≤ m := Nat.le_of_ble_eq_true h
theorem O {α : Sort _} {a : α} : a = a := rfl
abbrev JE := @Nat.zero_le
abbrev JF := @IntWalk.i64_in
abbrev JH := @Nat.le_refl
abbrev JI := @List.mem_cons_self
abbrev JJ := @List.mem_cons_of_mem
abbrev JO := @List.take_of_length_le
abbrev JZ := @List.mem_append_right
abbrev J3 := @List.mem_append_left
end Go.Dk
namespace Go.Proofs.YtepbmdlgdaedpaaGreatDoor
open Go.RowKit Go.Dk
abbrev JD := @Tryz.underlying23
abbrev JG := @Tryz.underlying27
abbrev JK := @Tryz.underlying240
abbrev JL := @Tryz.underlying9
abbrev JM := @Tryz.underlying3
abbrev JP := @Tryz.underlying25
abbrev JQ := @Tryz.underlying31
abbrev JR := @Tryz.underlying129
abbrev JS := @Tryz.underlying26
abbrev JU := @Tryz.underlying22
abbrev JV := @Tryz.underlying5
abbrev JW := @Tryz.underlying135
abbrev JX := @Tryz.underlying29
abbrev JY := @Tryz.underlying59
abbrev J4 := @Tryz.underlying163
abbrev J5 := @Tryz.underlying81
abbrev J6 := @Tryz.underlying150
abbrev J7 := @Tryz.underlying152
end Go.Proofs.YtepbmdlgdaedpaaGreatDoor
