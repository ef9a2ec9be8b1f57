/- One of many segments; an element written over. Plain lemmas; no program. -/
import Derived.Test.YtepbmdlgdaedpaaGreatDoorBook1
namespace Go.Dk
open Go Go.RowKit
section
variable {w0 w : World} {R : List Seg} {e : TypeId} {v : Value} {m i : Nat} {W : List Value} {X : Seg} {XS : List Seg}
theorem sub1 {X : Seg} {R : List Seg} (h : X ∈ R) : [X] ⊆ R := fun _ hx => by rw [List.mem_singleton] at hx; rw [hx]; exact h
end
end Go.Dk
