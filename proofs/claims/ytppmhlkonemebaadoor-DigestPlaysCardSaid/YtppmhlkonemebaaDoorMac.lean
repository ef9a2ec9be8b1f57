/- The walk of Mac, of a key that fits a block. -/
import Derived.Test.YtppmhlkonemebaaDoorOf
namespace Go.Proofs.YtppmhlkonemebaaDoor
open Go.RowKit Go.Dk

end Go.Proofs.YtppmhlkonemebaaDoor
