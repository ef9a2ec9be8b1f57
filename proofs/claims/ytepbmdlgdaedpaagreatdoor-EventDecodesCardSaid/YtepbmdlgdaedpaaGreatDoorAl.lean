/- Short names for facts that are used throughout: nothing is proved here that is not a name for something. -/
import Derived.WalkKit
import Derived.ProofKit
import Derived.Test.YtepbmdlgdaedpaaGreatDoorProg
/- Short names for facts that are used throughout: nothing is proved here that is not a name for something. -/
namespace Go.Dk
open Go Go.RowKit
theorem ae {P : Prop} (h : P := by decide) : P := h
theorem af {P : Prop} (h : P := by kernel_rfl) : P := h
theorem ag {P : Prop} (h : P := by omega) : P := h
theorem ah {P : Prop} (h : P := by rfl) : P := h
theorem ai {n m : Nat} (h : Nat.ble n m = true := by rfl) : n ≤ m := Nat.le_of_ble_eq_true h
theorem O {α : Sort _} {a : α} : a = a := rfl
abbrev KW := @Nat.zero_le
abbrev KX := @IntWalk.i64_in
abbrev KZ := @Nat.le_refl
abbrev La := @List.mem_cons_self
abbrev Lc := @List.mem_cons_of_mem
abbrev Lj := @List.take_of_length_le
abbrev LG := @List.mem_append_right
abbrev LH := @List.mem_append_left
end Go.Dk
namespace Go.Proofs.YtepbmdlgdaedpaaGreatDoor
open Go.RowKit Go.Dk
abbrev KU := @Tryz.underlying23
abbrev KY := @Tryz.underlying27
abbrev Ld := @Tryz.underlying240
abbrev Le := @Tryz.underlying9
abbrev Lh := @Tryz.underlying3
abbrev Ll := @Tryz.underlying25
abbrev Lm := @Tryz.underlying31
abbrev Lp := @Tryz.underlying129
abbrev Lr := @Tryz.underlying26
abbrev Ls := @Tryz.underlying22
abbrev Lt := @Tryz.underlying5
abbrev Lu := @Tryz.underlying135
abbrev LC := @Tryz.underlying29
abbrev LD := @Tryz.underlying59
abbrev LJ := @Tryz.underlying163
abbrev LK := @Tryz.underlying81
abbrev LM := @Tryz.underlying150
abbrev LP := @Tryz.underlying152
abbrev LQ := @Tryz.underlying187
end Go.Proofs.YtepbmdlgdaedpaaGreatDoor
