/- The walk of DigestNames. -/
import Derived.Test.YtpomngkcfbnjoaaDoorLit
namespace Go.Proofs.YtpomngkcfbnjoaaDoor
open Go.RowKit Go.Dk

@[irreducible] def lit0 : List UInt8 := [116, 104, 101, 32, 116, 104, 105, 114, 100, 32, 99, 97, 115, 101, 32, 111, 102, 32, 116, 104, 101, 32, 100, 111, 99, 107, 101, 116]
theorem len0 : 28 = lit0.length := by kernel_rfl
theorem lt0 : lit0.length < 140737488355328 := by rw [← len0]; decide
@[irreducible] def lit1 : List UInt8 := [97, 32, 100, 111, 99, 107, 101, 116, 32, 105, 115, 32, 114, 101, 97, 100, 32, 102, 114, 111, 109, 32, 105, 116, 115, 32, 102, 105, 114, 115, 116, 32, 101, 118, 101, 110, 116, 32, 116, 111, 32, 105, 116, 115, 32, 108, 97, 115, 116, 44, 32, 116, 119, 105, 99, 101]
theorem len1 : 56 = lit1.length := by kernel_rfl
theorem lt1 : lit1.length < 140737488355328 := by rw [← len1]; decide
@[irreducible] def lit2 : List UInt8 := [99, 108, 101, 114, 107]
theorem len2 : 5 = lit2.length := by kernel_rfl
@[irreducible] def lit3 : List UInt8 := [104, 101, 97, 100, 32, 49, 50]
theorem len3 : 7 = lit3.length := by kernel_rfl
@[irreducible] def lit4 : List UInt8 := [99, 97, 115, 101]
theorem len4 : 4 = lit4.length := by kernel_rfl
end Go.Proofs.YtpomngkcfbnjoaaDoor
