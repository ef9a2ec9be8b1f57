/- The walks of Leaf, Branch, Empty. -/
import Derived.Test.YtpomngkcfbnjoaaDoorOf
namespace Go.Proofs.YtpomngkcfbnjoaaDoor
open Go.RowKit Go.Dk

def branchL (width : Int) (X Y : List UInt8) : List UInt8 := cutL (sha (4 :: (X ++ Y))) width
def emptyL (width : Int) : Nat → List UInt8
  | 0 => cutL (sha [5]) width
  | k + 1 => branchL width (emptyL width k) (emptyL width k)
theorem emptyL_length (width : Int) (k : Nat) : (emptyL width k).length = 32 := by cases k <;> exact cutL_length _ _ (sha_length _)

end Go.Proofs.YtpomngkcfbnjoaaDoor
