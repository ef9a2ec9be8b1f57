/- How an argument of the type []int is opened. -/
import Derived.Test.YtpomngkcfbnjoaaDoorOpenSi
namespace Go.Proofs.YtpomngkcfbnjoaaDoor
open Go.ChangeShapes Go.WideShapes Go.ChangeAt Go.RowKit Go.Dk Go.Deep
theorem on_c : Tryd.prog.cellsOf 3 = 1 := by kernel_rfl
set_option maxRecDepth 100000 in
theorem open_ints {H : Type} {enc : TypeId × Value → H} {w : World} {held : Bool} {v : Value} {d : DataW H} {p : List MemPlace} {r : Reach} {b0 : Nat} (hv : Value.okWide Tryd.prog w r b0 84 v) (h : DataW.Trod enc Tryd.prog w 0 (fun _ => true) held 84 v d p) :
    ∃ (A : Option Addr) (ts : List Int) (c : Nat), v = .slice A ts.length c ∧ ts.length ≤ c ∧ (∀ t ∈ ts, -9223372036854775808 ≤ t ∧ t ≤ 9223372036854775807) ∧ Rc w [] A (ts.map (Value.int .i64)) := by
  obtain ⟨fuel, hf⟩ := h
  obtain ⟨A, Ws, c, h1, h2, h3, h4, h5⟩ := cells_slice Tryd.underlying84 on_c (by decide) hf
  obtain ⟨l, hl, hs⟩ := choose_map (f := fun i : Int => [Value.int .i64 i]) (Pr := fun t => -9223372036854775808 ≤ t ∧ t ≤ 9223372036854775807) Ws (fun W hW => by
    obtain ⟨hl, m, y, hy⟩ := h4 W hW
    obtain ⟨n, e, l1, u1⟩ := cells_int Tryd.underlying3 hy
    exact ⟨n, e, l1, u1⟩)
  subst hl
  rw [List.length_map] at h1 h2 h3
  refine ⟨A, l, c, slice_of_cells Tryd.underlying84 hv h1, h2, hs, ?_⟩
  have h6 := h5.rc (R := [])
  rw [flat_ones (Value.int .i64)] at h6
  exact h6
end Go.Proofs.YtpomngkcfbnjoaaDoor
