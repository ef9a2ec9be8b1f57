/- Small facts of segments. Plain lemmas over the model; no program. -/
import Derived.Test.YtepbmdlgdaedpaaGreatDoorHr
namespace Go.Dk
open Go Go.RowKit
theorem sub0 {R : List Seg} : R ⊆ R := fun _ h => h
theorem subC {R S : List Seg} {X : Seg} (h : R ⊆ S) : R ⊆ X :: S := fun _ hx => List.mem_cons_of_mem _ (h hx)
end Go.Dk
