/- append onto a slice of one's own. Plain lemmas over the model; no program. -/
import Derived.Test.YtppmhlkonemebaaDoorMake
import Derived.Deep.DeepAppendWide
namespace Go.Dk
open Go Go.RowKit
section
variable {P : Program} {ops : Array Oper} {Q : Exit → Act → World → Prop} {a : Act} {w0 w : World} {R : List Row} {rest : List Oper} {o : Oper}
end
end Go.Dk
