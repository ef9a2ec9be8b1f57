/- Literals of bytes: built, and marked. -/
import Derived.Test.YtpomngkcfbnjoaaDoorTree
import Derived.Great.BuildSlice
import Derived.Lib.SlBytesConst
namespace Go.Proofs.YtpomngkcfbnjoaaDoor
open Go.RowKit Go.Dk
section
variable {P : Program} {ops : Array Oper} {Q : Exit → Act → World → Prop} {a : Act} {w0 w : World} {L : List Row} {rest : List Oper} {o : Oper}
end
def known : ByteArray := { data := #[52, 52, 57, 52, 55, 48, 53, 55, 54, 50, 55, 53, 51, 48, 49, 55, 49, 48, 100, 101, 97, 53, 49, 54, 54, 50, 100, 98, 56, 55, 99, 98, 50, 101, 52, 51, 51, 51, 100, 50, 57, 100, 102, 97, 50, 51, 101, 48, 98, 55, 48, 101, 98, 51, 55, 55, 49, 57, 56, 98, 52, 102, 53, 98] }
end Go.Proofs.YtpomngkcfbnjoaaDoor
