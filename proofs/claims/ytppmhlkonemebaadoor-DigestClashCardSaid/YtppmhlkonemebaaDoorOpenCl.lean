/- How a list of texts is opened, sizes too. -/
import Derived.Test.YtppmhlkonemebaaDoorSlD
import Derived.Test.YtppmhlkonemebaaDoorProg
namespace Go.Proofs.YtppmhlkonemebaaDoor
open Go.ChangeShapes Go.WideShapes Go.ChangeAt Go.RowKit Go.Dk Go.Deep
theorem oc_c5 : Tryd.prog.cellsOf 5 = 1 := by kernel_rfl
theorem oc_c24 : Tryd.prog.cellsOf 24 = 1 := by kernel_rfl
theorem oc_b5 : Tryd.prog.bytesOf 5 = 1 := by kernel_rfl
set_option maxRecDepth 100000 in
theorem open_texts {H : Type} {enc : TypeId × Value → H} {w : World} {held : Bool} {v : Value} {d : DataW H} {p : List MemPlace} {r : Reach} {b0 : Nat} {ts : List TypeId} {ds : List (DataW H)} {j : Nat} (hv : Value.okWide Tryd.prog w r b0 29 v) (h : DataW.Trod enc Tryd.prog w 0 (fun _ => true) held 29 v d p)
    (hz : (DataW.weightsEach Tryd.prog ts ds).all (· ≤ reachBytes) = true) (htj : ts[j]? = some 29) (hdj : ds[j]? = some d) :
    ∃ (pa : Option Addr) (ps : List Piece) (pc : Nat), v = .slice pa ps.length pc ∧ PcS w [] pa ps ∧ (∀ p ∈ ps, p.2.2.length < 140737488351300) ∧ ps.length ≤ 9223372036854775807 := by
  obtain ⟨fuel, hf⟩ := h
  obtain ⟨A, Ws, c, h1, _, h3, h4, h5⟩ := cells_sliceD Tryd.underlying29 oc_c24 (by decide) hf
  obtain ⟨ps, hl, hs⟩ := choose_map (f := fun p : Piece => [pieceV p]) (Pr := fun p : Piece => p.2.2.length ≤ p.2.1 ∧ Rd w [] p.1 p.2.2 ∧ p.2.2.length < 140737488351300) Ws (fun W hW => by
    obtain ⟨hl, m, y, hy, es, sp, hd, hye⟩ := h4 W hW
    obtain ⟨PA, c2, l, e2, hlc, hB, hd2⟩ := open_byte_cells Tryd.underlying24 Tryd.underlying5 oc_c5 hy
    refine ⟨(PA, c2, l), e2, hlc, Rd.old hB, ?_⟩
    have hrb : reachBytes < 140737488351300 := by decide
    have hds : c2 ≤ reachBytes := by
      rcases hd2 with ⟨_, rfl, _⟩ | ⟨es2, sp2, he, hc, _⟩
      · exact Nat.zero_le _
      · have hm : (es2.length + sp2.length) * Tryd.prog.bytesOf 5 ∈ DataW.weights Tryd.prog 24 y.1 := by
          rw [he, DataW.weights, Tryd.underlying24]
          exact List.mem_cons_self ..
        have hm2 := weight_elem (sp := sp) Tryd.underlying29 hye hm
        have hd3 : d = .slice es sp := hd
        rw [← hd3] at hm2
        have h6 := List.all_eq_true.1 hz _ (DataW.weights_mem_each htj hdj _ hm2)
        rw [oc_b5, Nat.mul_one, hc] at h6
        simpa using h6
    show l.length < _
    omega)
  subst hl
  rw [List.length_map] at h1 h3
  rw [flat_ones] at h5
  exact ⟨A, ps, c, slice_of_cells Tryd.underlying29 hv h1, ⟨h5.rc, fun p hp => ⟨(hs p hp).1, (hs p hp).2.1⟩⟩, fun p hp => (hs p hp).2.2, h3⟩
end Go.Proofs.YtppmhlkonemebaaDoor
