/- The walks of turned, Must. -/
import Derived.Test.YtppmhlkonemebaaDoorBook
import Derived.Laws.BitsAllLaws
namespace Go.Proofs.YtppmhlkonemebaaDoor
open Go.RowKit Go.Dk

theorem mu_zero36 : zeroIs Tryd.prog 36 (.agg (dc (List.replicate 32 0)).toArray) := by unfold zeroIs; kernel_rfl
theorem mu_row36 : isRow Tryd.prog 36 32 = true := by kernel_rfl
theorem mu_size36 : (Tryd.prog.info? 36).map (·.size) = some 32 := by kernel_rfl

theorem val_u8' {a b : Int} (h : a = b) : Value.int .u8 a = .int .u8 b := by rw [h]
end Go.Proofs.YtppmhlkonemebaaDoor
