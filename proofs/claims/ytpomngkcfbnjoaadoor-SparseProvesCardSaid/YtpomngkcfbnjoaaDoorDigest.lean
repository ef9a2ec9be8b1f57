/- The walks of digest.Sum, hex, written. -/
import Derived.Test.YtpomngkcfbnjoaaDoorSum
import Derived.Test.YtpomngkcfbnjoaaDoorMust
namespace Go.Proofs.YtpomngkcfbnjoaaDoor
open Go.RowKit Go.Dk

theorem sha_length (m : List UInt8) : (sha m).length = 32 := by
  rw [sha_eq, flat_length, blocks_length _ _ _ rfl]

/-- the address, if there is one, lies in memory -/
def In (w : World) (A : Option Addr) : Prop := ∀ ad, A = some ad → ad.block < w.heap.size
theorem In.size {w w' : World} {A : Option Addr} (h : In w A) (hs : w.heap.size ≤ w'.heap.size) : In w' A := fun ad he => Nat.lt_of_lt_of_le (h ad he) hs
theorem In.off {w : World} {A : Option Addr} {g : Nat} (h : In w A) (hg : w.heap.size ≤ g) : Off A g := fun ad he => by have := h ad he; omega

end Go.Proofs.YtpomngkcfbnjoaaDoor
