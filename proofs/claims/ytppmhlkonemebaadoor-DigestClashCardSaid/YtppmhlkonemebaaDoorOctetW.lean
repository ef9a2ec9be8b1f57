/- The walks of octet's Writer. -/
import Derived.Test.YtppmhlkonemebaaDoorProg
import Derived.Test.YtppmhlkonemebaaDoorTwo
namespace Go.Proofs.YtppmhlkonemebaaDoor
open Go.RowKit Go.Dk

theorem ow_size5 : (Tryd.prog.info? 5).map (·.size) = some 1 := by kernel_rfl
theorem ow_byte5 : byteInfo Tryd.prog 5 := by unfold byteInfo; kernel_rfl
theorem ow_elem5 : elemInfo Tryd.prog 5 1 1 := elemInfo_byte ow_byte5
/-- a writer's row holds a slice of its own that reads as l -/
def Wr (w0 : World) (wb : Nat) (R X : List Row) (v : Value) (l : List UInt8) (w : World) : Prop :=
  Own w0 5 1 X v l.length (dc l) ∧ At w0 ([(wb, 110, [v])] ++ R ++ X) w
theorem Wr.same {w0 : World} {wb : Nat} {R X : List Row} {v : Value} {l l' : List UInt8} {w : World} (h : Wr w0 wb R X v l w) (e : l = l') : Wr w0 wb R X v l' w := e ▸ h
end Go.Proofs.YtppmhlkonemebaaDoor
