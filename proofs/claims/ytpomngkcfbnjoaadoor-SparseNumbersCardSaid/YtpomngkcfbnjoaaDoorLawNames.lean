/- The walk of DigestNames. -/
import Derived.Test.YtpomngkcfbnjoaaDoorLit
namespace Go.Proofs.YtpomngkcfbnjoaaDoor
open Go.RowKit Go.Dk

@[irreducible] def lit0 : List UInt8 := [116, 104, 101, 32, 116, 104, 105, 114, 100, 32, 99, 97, 115, 101, 32, 111, 102, 32, 116, 104, 101, 32, 100, 111, 99, 107, 101, 116]
theorem len0 : 28 = lit0.length := by kernel_rfl
@[irreducible] def lit1 : List UInt8 := [97, 32, 100, 111, 99, 107, 101, 116, 32, 105, 115, 32, 114, 101, 97, 100, 32, 102, 114, 111, 109, 32, 105, 116, 115, 32, 102, 105, 114, 115, 116, 32, 101, 118, 101, 110, 116, 32, 116, 111, 32, 105, 116, 115, 32, 108, 97, 115, 116, 44, 32, 116, 119, 105, 99, 101]
theorem len1 : 56 = lit1.length := by kernel_rfl
@[irreducible] def lit2 : List UInt8 := [99, 108, 101, 114, 107]
theorem len2 : 5 = lit2.length := by kernel_rfl
@[irreducible] def lit3 : List UInt8 := [104, 101, 97, 100, 32, 49, 50]
theorem len3 : 7 = lit3.length := by kernel_rfl
@[irreducible] def lit4 : List UInt8 := [99, 97, 115, 101]
theorem len4 : 4 = lit4.length := by kernel_rfl
abbrev hx2 : ByteArray := { data := #[100, 99, 99, 53, 97, 55, 97, 56, 53, 55, 53, 52, 97, 57, 101, 49, 56, 51, 55, 98, 48, 99, 98, 48, 56, 55, 101, 55, 97, 51, 48, 55, 101, 98, 48, 100, 53, 48, 99, 100, 51, 101, 55, 57, 102, 52, 53, 100, 48, 53, 50, 55, 100, 48, 56, 57, 49, 56, 99, 48, 97, 54, 102, 57] }
end Go.Proofs.YtpomngkcfbnjoaaDoor
