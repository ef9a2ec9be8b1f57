/- The walks of docketbook's Same, Intact and Roomy over bytes. -/
import Derived.Test.YtpomngkcfbnjoaaDoorMake
import Derived.Test.YtpomngkcfbnjoaaDoorRegion
import Derived.Test.YtpomngkcfbnjoaaDoorRows
namespace Go.Proofs.YtpomngkcfbnjoaaDoor
open Go.RowKit Go.Dk

theorem bk_size5 : (Tryd.prog.info? 5).map (·.size) = some 1 := by kernel_rfl
theorem bk_byte5 : byteInfo Tryd.prog 5 := by unfold byteInfo; kernel_rfl

end Go.Proofs.YtpomngkcfbnjoaaDoor
