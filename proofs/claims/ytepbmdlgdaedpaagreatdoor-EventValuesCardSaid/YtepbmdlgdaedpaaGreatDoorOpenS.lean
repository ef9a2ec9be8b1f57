/- How arguments are opened: slices of bytes, slices of such slices. Plain lemmas over the model; no program. -/
import Derived.Test.YtepbmdlgdaedpaaGreatDoorOpen
import Derived.Test.YtepbmdlgdaedpaaGreatDoorBytes
import Derived.ChangeSlices
import Derived.SizedLaws
import Derived.Deep.Slices
namespace Go.Dk
open Go Go.ChangeShapes Go.WideShapes Go.ChangeAt Go.RowKit Go.Deep
section
variable {H : Type} {enc : TypeId × Value → H} {P : Program} {w : World} {held : Bool} {t e : TypeId} {v : Value} {d : DataW H} {p : List MemPlace}
theorem addr_plain {a : Addr} {i : Nat} {u : Value} (h : w.cell? (a.add i) = some u) (hi : i = 0) : a = ⟨a.block, a.off, none⟩ := by
  subst hi
  obtain ⟨b, o, s⟩ := a
  have hs : s = none := by simpa [Addr.add] using World.cell?_spot h
  subst hs
  rfl
theorem block_lt_of_cell {ad : Addr} {u : Value} (h : w.cell? ad = some u) : ad.block < w.heap.size := by
  unfold World.cell? at h
  rcases Nat.lt_or_ge ad.block w.heap.size with h1 | h1
  · exact h1
  · rw [Array.getElem?_eq_none h1] at h; simp at h
end
end Go.Dk
