/- The walk of digest.Cut. -/
import Derived.Test.YtppmhlkonemebaaDoorMust
namespace Go.Proofs.YtppmhlkonemebaaDoor
open Go.RowKit Go.Dk
def kept (m : Int) : Nat := (min (max m 1) 32).toNat
theorem dc_take (D : List UInt8) (X : List Value) (h : X = dc D) (hD : D.length = 32) : ((X.drop 0).take 32).toArray = (dc D).toArray := by
  subst h
  rw [List.drop_zero, List.take_of_length_le (by simp [dc, hD])]

end Go.Proofs.YtppmhlkonemebaaDoor
