/- The walks of Of, Leaf, Branch, Empty. -/
import Derived.Test.YtppmhlkonemebaaDoorDigest
import Derived.Test.YtppmhlkonemebaaDoorCut
namespace Go.Proofs.YtppmhlkonemebaaDoor
open Go.RowKit Go.Dk

end Go.Proofs.YtppmhlkonemebaaDoor
