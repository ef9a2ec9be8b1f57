/- The walks of docketbook's Same, Intact and Roomy over bytes. -/
import Derived.Test.YtppmhlkonemebaaDoorOwn
import Derived.Test.YtppmhlkonemebaaDoorRows
namespace Go.Proofs.YtppmhlkonemebaaDoor
open Go.RowKit Go.Dk

theorem bk_size5 : (Tryd.prog.info? 5).map (·.size) = some 1 := by kernel_rfl
theorem bk_byte5 : byteInfo Tryd.prog 5 := by unfold byteInfo; kernel_rfl

/-- what Roomy lays -/
def roomy (l : List UInt8) (v : UInt8) : List UInt8 := l ++ List.replicate 80 v
end Go.Proofs.YtppmhlkonemebaaDoor
