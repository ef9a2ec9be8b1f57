/- The walks of Of, Leaf, Branch, Empty. -/
import Derived.Test.YtppmhlkonemebaaDoorDigest
import Derived.Test.YtppmhlkonemebaaDoorCut
namespace Go.Proofs.YtppmhlkonemebaaDoor
open Go.RowKit Go.Dk

abbrev Part := Option Addr × Nat × List UInt8
def flat (ps : List Part) : List UInt8 := ps.flatMap (·.2.2)
theorem no24 : notRow Tryd.prog 24 = true := by kernel_rfl

end Go.Proofs.YtppmhlkonemebaaDoor
