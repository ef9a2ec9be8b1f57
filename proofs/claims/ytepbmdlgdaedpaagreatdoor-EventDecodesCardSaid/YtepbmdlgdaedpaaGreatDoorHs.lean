/- Small facts of segments. Plain lemmas over the model; no program. -/
import Derived.Test.YtepbmdlgdaedpaaGreatDoorHr
/- Small facts of segments. Plain lemmas over the model; no program. -/
namespace Go.Dk
open Go Go.RowKit
theorem dH {R:List Seg}:R⊆R:=fun _ h=>h
theorem bF {R S:List Seg} {X:Seg} (h:R⊆S):R⊆X::S:=fun _ hx=>Lc _ (h hx)
end Go.Dk
