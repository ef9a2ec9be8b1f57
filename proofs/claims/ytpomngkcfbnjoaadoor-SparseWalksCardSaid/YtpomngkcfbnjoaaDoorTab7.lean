/- Clash, the reference's. -/
import Derived.Test.YtpomngkcfbnjoaaDoorTab4
namespace Go.Proofs.YtpomngkcfbnjoaaDoor
open Go.RowKit Go.Dk

theorem t7_elem : elemInfo Tryd.prog 23 32 32 := elemInfo_of (z := .agg (dc (List.replicate 32 0)).toArray) (by kernel_rfl) (by kernel_rfl)
theorem t7_size : (Tryd.prog.info? 23).map (·.size) = some 32 := size36
theorem t7_build0 (f : Nat → UInt8) (w : World) : (Instr.buildSlice 26 1 #[(0, .agg (dc ((List.range 32).map f)).toArray)]).run Tryd.prog w = .ok (.slice (some ⟨w.heap.size, 0, none⟩) 1 1) (w.alloc (.cells (dc ((List.range 32).map f)).toArray 23)) := by kernel_rfl
theorem t7_build {D : List UInt8} (h : D.length = 32) (w : World) : (Instr.buildSlice 26 1 #[(0, .agg (dc D).toArray)]).run Tryd.prog w = .ok (.slice (some ⟨w.heap.size, 0, none⟩) 1 1) (w.alloc (.cells (dc D).toArray 23)) := by
  have h1 := t7_build0 (bAt D) w
  rw [list32 h] at h1
  exact h1
/-- digests, one behind the other -/
def digs (f : Nat → List UInt8) (n : Nat) : List Value := (List.range n).flatMap fun i => dc (f i)
theorem digs_succ (f : Nat → List UInt8) (n : Nat) : digs f (n + 1) = digs f n ++ dc (f n) := by simp [digs, List.range_succ]
end Go.Proofs.YtpomngkcfbnjoaaDoor
