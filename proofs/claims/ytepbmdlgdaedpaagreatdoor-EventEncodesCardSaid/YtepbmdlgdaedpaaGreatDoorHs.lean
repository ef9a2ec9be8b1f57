/- Small facts of segments. Plain lemmas over the model; no program. -/
import Derived.Test.YtepbmdlgdaedpaaGreatDoorHr
/- Small facts of segments. Plain lemmas over the model; no program. -/
namespace Go.Dk
open Go Go.RowKit
theorem dD {R:List Seg}:R⊆R:=fun _ h=>h
theorem bD {R S:List Seg} {X:Seg} (h:R⊆S):R⊆X::S:=fun _ hx=>JJ _ (h hx)
end Go.Dk
