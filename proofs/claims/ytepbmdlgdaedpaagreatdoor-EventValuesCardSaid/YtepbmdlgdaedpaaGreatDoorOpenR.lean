/- How a slice of structs is opened: element by element, each a list of cells. Plain lemmas over the model; no program. -/
import Derived.Test.YtepbmdlgdaedpaaGreatDoorOpenS
namespace Go.Dk
open Go Go.ChangeShapes Go.WideShapes Go.ChangeAt Go.RowKit Go.Deep
section
variable {H : Type} {enc : TypeId × Value → H} {P : Program} {w : World} {held : Bool} {t e : TypeId} {v : Value} {d : DataW H} {p : List MemPlace}
/-- what is inside a slice is no greater than the whole -/
theorem weight_elem {t e : TypeId} {es sp : List (DataW H)} {d : DataW H} (hu : P.underlying t = some (.slice e)) (hd : d ∈ es) {x : Nat} (hx : x ∈ DataW.weights P e d) : x ∈ DataW.weights P t (.slice es sp) := by
  rw [DataW.weights, hu]
  refine List.mem_cons_of_mem _ (List.mem_append_left _ ?_)
  induction es with
  | nil => cases hd
  | cons y r ih =>
    rw [DataW.weightsAll]
    rcases List.mem_cons.1 hd with rfl | h
    · exact List.mem_append_left _ hx
    · exact List.mem_append_right _ (ih h)
end
end Go.Dk
