/- How arguments are opened: arrays of bytes by value. Plain lemmas over the model; no program. -/
import Derived.Test.YtppmhlkonemebaaDoorMem
import Derived.OpenShut
import Derived.ShutString
import Derived.ChangeOld
namespace Go.Dk
open Go Go.ChangeShapes Go.WideShapes Go.ChangeAt Go.RowKit
section
variable {H : Type} {enc : TypeId × Value → H} {P : Program} {w : World} {base : Nat} {spare : Nat → Bool} {held : Bool} {t e : TypeId} {v : Value} {d : DataW H} {p : List MemPlace} {r : Reach} {b0 : Nat}

end
end Go.Dk
