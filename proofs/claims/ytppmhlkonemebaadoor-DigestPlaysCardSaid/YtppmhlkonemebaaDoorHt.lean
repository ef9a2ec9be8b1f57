/- Further rules of plans. Plain lemmas over the model; no program. -/
import Derived.Test.YtppmhlkonemebaaDoorHs
namespace Go.Dk
open Go Go.RowKit
section
variable {P : Program} {Q : Exit → Act → World → Prop} {w : World} {n : Nat} {F : List (Nat × Value)} {a : Act}
variable {ops : Array Oper} {S : World → Prop} {hd : Nat} {loud rest : List Nat} {i : Nat} {o : Oper} {d : Nat}
end
end Go.Dk
