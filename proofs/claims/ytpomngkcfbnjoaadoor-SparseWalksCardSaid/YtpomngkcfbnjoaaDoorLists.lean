/- The walks of Room, Lists. -/
import Derived.Test.YtpomngkcfbnjoaaDoorTree
namespace Go.Proofs.YtpomngkcfbnjoaaDoor
open Go.RowKit Go.Dk

/-- a slice of slices of bytes reads as these -/
def Pieces (w : World) (pa : Option Addr) (ps : List Part) : Prop :=
  (ps ≠ [] → ∃ b o, pa = some ⟨b, o, none⟩ ∧ b < w.heap.size ∧ ∀ i A c l, ps[i]? = some (A, c, l) → w.cell? ⟨b, o + i, none⟩ = some (.slice A l.length c)) ∧
  ∀ A c l, (A, c, l) ∈ ps → l.length ≤ c ∧ Bts w A l
end Go.Proofs.YtpomngkcfbnjoaaDoor
