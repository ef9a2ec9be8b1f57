/- The digest's table: Of with whatever pieces, Text, and the sums. -/
import Derived.Test.YtppmhlkonemebaaDoorLawMacs
import Derived.Test.YtppmhlkonemebaaDoorWrite0
import Derived.Test.YtppmhlkonemebaaDoorLists
import Derived.Test.YtppmhlkonemebaaDoorSum
import Derived.Test.YtppmhlkonemebaaDoorOctetW
import Derived.Test.YtppmhlkonemebaaDoorMore
namespace Go.Proofs.YtppmhlkonemebaaDoor
open Go.RowKit Go.Dk

theorem Pieces.fresh {w0 w : World} {L : List Row} {pa : Option Addr} {ps : List Part} (h : Pieces w0 pa ps) (hA : At w0 L w) (hn : ∀ r ∈ L, w0.heap.size ≤ (r : Row).1) : Pieces w pa ps := by
  refine ⟨fun hne => ?_, fun A c l hm => ⟨(h.2 A c l hm).1, (h.2 A c l hm).2.fresh hA hn⟩⟩
  obtain ⟨b, o, he, hb, hc⟩ := h.1 hne
  refine ⟨b, o, he, Nat.lt_of_lt_of_le hb hA.size, fun i A c l hi => ?_⟩
  rw [hA.old hb (fun hm => by
    obtain ⟨r, hr, e⟩ := List.mem_map.1 hm
    have h1 := hn r hr
    have h2 : r.1 = b := e
    omega)]
  exact hc i A c l hi
theorem Pieces.nil (w : World) : Pieces w none [] := ⟨fun h => absurd rfl h, fun _ _ _ h => by cases h⟩
/-- the pieces of a literal's row -/
theorem Pieces.row {w0 w : World} {L : List Row} {g k : Nat} {t : TypeId} {ps : List Part} (hA : At w0 L w) (hk : L[k]? = some (g, t, ps.map fun p => Value.slice p.1 p.2.2.length p.2.1)) (hp : ∀ A c l, (A, c, l) ∈ ps → l.length ≤ c ∧ Bts w A l) : Pieces w (some ⟨g, 0, none⟩) ps := by
  refine ⟨fun _ => ⟨g, 0, rfl, hA.lt hk, fun i A c l hi => ?_⟩, hp⟩
  rw [Nat.zero_add, hA.cell hk, List.getElem?_map, hi]
  rfl
theorem flat_one (A : Option Addr) (c : Nat) (l : List UInt8) : flat [(A, c, l)] = l := by simp [flat]
theorem tb_row36 {D : List UInt8} (h : D.length = 32) : isRow Tryd.prog 36 (dc D).length = true := by rw [dc_length, h]; exact row36
theorem tb_z {D : List UInt8} (h : D.length = 32) : (dc D).length = (dc (List.replicate 32 (0 : UInt8))).length := by rw [dc_length, h]; rfl
theorem tb_s : (Tryd.prog.info? 36).map (·.size) = some (dc (List.replicate 32 (0 : UInt8))).length := by rw [size36]; rfl
end Go.Proofs.YtppmhlkonemebaaDoor
