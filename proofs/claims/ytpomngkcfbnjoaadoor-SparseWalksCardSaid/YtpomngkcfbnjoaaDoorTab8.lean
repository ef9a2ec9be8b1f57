/- The reference's Empties and Empty. -/
import Derived.Test.YtpomngkcfbnjoaaDoorTab7
namespace Go.Proofs.YtpomngkcfbnjoaaDoor
open Go.RowKit Go.Dk

theorem digs_one (f : Nat → List UInt8) : digs f 1 = dc (f 0) := by simp [digs]
end Go.Proofs.YtpomngkcfbnjoaaDoor
