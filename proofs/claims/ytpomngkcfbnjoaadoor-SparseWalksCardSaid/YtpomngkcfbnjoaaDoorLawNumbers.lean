/- The walk of SparseNumbers. -/
import Derived.Test.YtpomngkcfbnjoaaDoorSp9
import Derived.Test.YtpomngkcfbnjoaaDoorTwo
namespace Go.Proofs.YtpomngkcfbnjoaaDoor
open Go.RowKit Go.Dk

theorem rs_at {l : List Itm} (h : ∀ i ∈ l, i.OK) {n : Nat} {i : Itm} (hn : l[n]? = some i) : ((cel Itm.cells l).drop (n * 65)).take 65 = i.cells ∧ n * 65 + 65 ≤ (cel Itm.cells l).length := cel_at (fun i hi => Itm.len (h i hi)) hn
theorem rs_take {w0 : World} {R : List Seg} {A : Option Addr} {l : List Itm} (n : Nat) (h : ∀ i ∈ l, i.OK) (hR : Rc w0 R A (cel Itm.cells l)) : Rc w0 R A (cel Itm.cells (l.take n)) := by
  have e : cel Itm.cells l = cel Itm.cells (l.take n) ++ cel Itm.cells (l.drop n) := by rw [← cel_append, List.take_append_drop]
  have h1 := hR.take (cel Itm.cells (l.take n)).length
  rw [e, List.take_left' rfl] at h1
  exact h1
set_option maxRecDepth 100000 in
theorem rs_slice0 (f g : Nat → UInt8) (c : Int) (w : World) : (Instr.buildSlice 55 1 #[(0, .agg (Itm.cells ⟨(List.range 32).map f, c, (List.range 32).map g⟩).toArray)]).run Tryd.prog w = .ok (.slice (some ⟨w.heap.size, 0, none⟩) 1 1) (w.alloc (.cells (Itm.cells ⟨(List.range 32).map f, c, (List.range 32).map g⟩).toArray 54)) := by kernel_rfl
theorem rs_slice {i : Itm} (h : i.OK) (w : World) : (Instr.buildSlice 55 1 #[(0, .agg i.cells.toArray)]).run Tryd.prog w = .ok (.slice (some ⟨w.heap.size, 0, none⟩) 1 1) (w.alloc (.cells i.cells.toArray 54)) := by
  have h1 := rs_slice0 (bAt i.k) (bAt i.ch) i.ct w
  rw [list32 h.k, list32 h.ch] at h1
  exact h1
end Go.Proofs.YtpomngkcfbnjoaaDoor
