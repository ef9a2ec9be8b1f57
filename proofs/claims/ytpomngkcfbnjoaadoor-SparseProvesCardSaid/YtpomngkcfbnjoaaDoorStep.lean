/- Small rules of the walk: which operation stands next, by the slot that it writes. Plain lemmas over the model; no program. -/
import Derived.Test.YtpomngkcfbnjoaaDoorMake
namespace Go.Dk
open Go Go.RowKit
section
variable {P : Program} {ops : Array Oper} {Q : Exit → Act → World → Prop} {a : Act} {w0 w : World} {L : List Row} {rest : List Oper} {o : Oper}
theorem val_u64 {a b : Int} (h : a = b) : Value.int .u64 a = .int .u64 b := by rw [h]
end
end Go.Dk
