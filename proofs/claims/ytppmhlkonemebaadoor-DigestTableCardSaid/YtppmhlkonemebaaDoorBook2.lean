/- Roomy copies of pieces, kept in one segment. Plain lemmas; no program. -/
import Derived.Test.YtppmhlkonemebaaDoorBook1
namespace Go.Dk
open Go Go.RowKit
/-- a roomy copy (its block, what it copies): its value, the piece's value, its row, the piece -/
def roomV (q : Nat × List UInt8) : Value := .slice (some ⟨q.1, 0, none⟩) (q.2.length + 80) (q.2.length + 80)
def partV (q : Nat × List UInt8) : Value := .slice (some ⟨q.1, 0, none⟩) q.2.length (q.2.length + 80)
def roomS (e : TypeId) (q : Nat × List UInt8) : Seg := [row q.1 e (cel cB (q.2 ++ List.replicate 80 165))]
def pcOf (q : Nat × List UInt8) : Piece := (some ⟨q.1, 0, none⟩, q.2.length + 80, q.2)
section
variable {w0 w : World} {R : List Seg} {A : Option Addr} {e : TypeId} {qs : List (Nat × List UInt8)}
theorem roomS_rc {q : Nat × List UInt8} {X : Seg} (hX : roomS e q ⊆ X) (hR : X ∈ R) : Rc w0 R (some ⟨q.1, 0, none⟩) (cel cB (q.2 ++ List.replicate 80 165)) := by
  have h1 : Rc w0 [roomS e q] (some ⟨q.1, 0, none⟩) (cel cB (q.2 ++ List.replicate 80 165)) := Rc.ofRow (i := 0) (off := 0) rfl (by rw [List.drop_zero, List.take_length])
  refine h1.monoF (fun r hr => ?_)
  rw [List.flatten_cons, List.flatten_nil, List.append_nil] at hr
  exact List.mem_flatten.2 ⟨X, hR, hX hr⟩
theorem roomS_rd {q : Nat × List UInt8} {X : Seg} (hX : roomS e q ⊆ X) (hR : X ∈ R) : Rd w0 R (some ⟨q.1, 0, none⟩) q.2 := by
  have h2 := (roomS_rc (w0 := w0) hX hR).take (cel cB q.2).length
  have e2 : (cel cB (q.2 ++ List.replicate 80 165)).take (cel cB q.2).length = cel cB q.2 := by rw [cel_append, List.take_left]
  rw [e2] at h2
  rw [Rd, cel_dc]
  exact h2
theorem roomS_mem {q : Nat × List UInt8} (h : q ∈ qs) : roomS e q ⊆ (qs.map (roomS e)).flatten := fun _ hr => List.mem_flatten.2 ⟨_, List.mem_map_of_mem h, hr⟩
theorem pcs_of (hA : Rc w0 R A (qs.map partV)) (hR : (qs.map (roomS e)).flatten ∈ R) : PcS w0 R A (qs.map pcOf) := by
  refine ⟨?_, fun p hp => ?_⟩
  · rw [List.map_map]
    exact hA
  · obtain ⟨q, hq, rfl⟩ := List.mem_map.1 hp
    exact ⟨Nat.le_add_right _ _, roomS_rd (roomS_mem hq) hR⟩
end
end Go.Dk
