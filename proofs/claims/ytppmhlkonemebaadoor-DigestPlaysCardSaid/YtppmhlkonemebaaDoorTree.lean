/- The walks of Leaf, Branch, Empty. -/
import Derived.Test.YtppmhlkonemebaaDoorOf
namespace Go.Proofs.YtppmhlkonemebaaDoor
open Go.RowKit Go.Dk

end Go.Proofs.YtppmhlkonemebaaDoor
