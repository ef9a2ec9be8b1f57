/- Texts that belong together, one behind the other. -/
import Derived.Test.YtepbmdlgdaedpaaGreatDoorStep
import Derived.Test.YtepbmdlgdaedpaaGreatDoorRegion
import Derived.Test.YtepbmdlgdaedpaaGreatDoorRows
import Derived.Laws.BitsAllLaws
import Derived.Test.YtepbmdlgdaedpaaGreatDoorSum
namespace Go.Proofs.YtepbmdlgdaedpaaGreatDoor
open Go.RowKit Go.Dk
theorem lG:(Tryz.prog.info? 5).map (·.size)=some 1:=af
end Go.Proofs.YtepbmdlgdaedpaaGreatDoor
namespace Go.Proofs.YtepbmdlgdaedpaaGreatDoor
open Go.RowKit Go.Dk
theorem EK:bQ Tryz.prog 29 (.agg (dc (List.replicate 32 0)).toArray):=by unfold bQ; kernel_rfl
theorem yP:isRow Tryz.prog 29 32=true:=af
theorem EL:(Tryz.prog.info? 29).map (·.size)=some 32:=af
end Go.Proofs.YtepbmdlgdaedpaaGreatDoor
namespace Go.Proofs.YtepbmdlgdaedpaaGreatDoor
open Go.RowKit Go.Dk
theorem eY (m:List UInt8):(sha m).length=32:=by
  rw [Ny,flat_length,aX _ _ _ rfl]
def In (w:World) (A:Option Addr):Prop:=∀ ad,A=some ad→ad.block<w.heap.size
theorem In.size {w w':World} {A:Option Addr} (h:In w A) (hs:w.heap.size≤w'.heap.size):In w' A:=fun ad he=>Nat.lt_of_lt_of_le (h ad he) hs
theorem In.off {w:World} {A:Option Addr} {g:Nat} (h:In w A) (hg:w.heap.size≤g):Off A g:=fun ad he=>by have:=h ad he; omega
end Go.Proofs.YtepbmdlgdaedpaaGreatDoor
