/- Roomy copies of pieces, kept in one segment. Plain lemmas; no program. -/
import Derived.Test.YtppmhlkonemebaaDoorBook1
namespace Go.Dk
open Go Go.RowKit
section
variable {w0 w : World} {R : List Seg} {A : Option Addr} {e : TypeId} {qs : List (Nat × List UInt8)}
end
end Go.Dk
