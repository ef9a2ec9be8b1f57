/- What bytes tell of an event are numbers of the machine; what is cut of an event's bytes or laid behind them is none: plain Lean. -/
import Derived.Test.YtepbmdlgdaedpaaGreatDoorEv6
import Derived.Test.YtepbmdlgdaedpaaGreatDoorEvW
namespace Go.Proofs.YtepbmdlgdaedpaaGreatDoor
open Go.RowKit Go.Dk

theorem noVal_in : noVal.In := ⟨⟨by decide, by decide⟩, ⟨by decide, by decide⟩⟩
end Go.Proofs.YtepbmdlgdaedpaaGreatDoor
