/- Check and Climb. -/
import Derived.Test.YtpomngkcfbnjoaaDoorSp3
namespace Go.Proofs.YtpomngkcfbnjoaaDoor
open Go.RowKit Go.Dk

theorem TxsS.none : TxsS [] [] (.slice Option.none 0 0) [] := ⟨(fun _ h => by cases h), rfl, Buf.nil _ _⟩

end Go.Proofs.YtpomngkcfbnjoaaDoor
