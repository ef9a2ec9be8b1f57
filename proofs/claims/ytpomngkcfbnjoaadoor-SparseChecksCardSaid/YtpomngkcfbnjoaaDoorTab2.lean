/- The digest's table: Entry, Within, Equal, Clone, Clash. -/
import Derived.Test.YtpomngkcfbnjoaaDoorTab
import Derived.Test.YtpomngkcfbnjoaaDoorMap
namespace Go.Proofs.YtpomngkcfbnjoaaDoor
open Go.RowKit Go.Dk

/-- the number's 64 bits -/
def c64 (z : Int) : Nat := (z % 18446744073709551616).toNat
theorem c64_wrap (z : Int) : IntKind.u64.wrap z = (c64 z : Int) := by rw [IntKind.wrap_u64]; unfold c64; omega
theorem Wr.drew {w0 : World} {wb : Nat} {R X : List Row} {v : Value} {l : List UInt8} {w : World} (h : Wr w0 wb R X v l w) : Wr w0 wb R X v l w.drew := ⟨h.1, h.2.drew⟩

end Go.Proofs.YtpomngkcfbnjoaaDoor
