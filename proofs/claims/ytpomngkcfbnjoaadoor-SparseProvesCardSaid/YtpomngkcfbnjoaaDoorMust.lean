/- The walks of turned, Must. -/
import Derived.Test.YtpomngkcfbnjoaaDoorBook
import Derived.Laws.BitsAllLaws
namespace Go.Proofs.YtpomngkcfbnjoaaDoor
open Go.RowKit Go.Dk

theorem mu_zero36 : zeroIs Tryd.prog 23 (.agg (dc (List.replicate 32 0)).toArray) := by unfold zeroIs; kernel_rfl
theorem mu_row36 : isRow Tryd.prog 23 32 = true := by kernel_rfl
theorem mu_size36 : (Tryd.prog.info? 23).map (·.size) = some 32 := by kernel_rfl

end Go.Proofs.YtpomngkcfbnjoaaDoor
