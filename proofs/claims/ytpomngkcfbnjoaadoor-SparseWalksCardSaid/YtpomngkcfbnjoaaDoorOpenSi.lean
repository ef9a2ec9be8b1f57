/- How arguments of the types []Item and []Digest are opened. -/
import Derived.Test.YtpomngkcfbnjoaaDoorSpR
import Derived.Test.YtpomngkcfbnjoaaDoorCell
namespace Go.Proofs.YtpomngkcfbnjoaaDoor
open Go.ChangeShapes Go.WideShapes Go.ChangeAt Go.RowKit Go.Dk Go.Deep

theorem oi_c3 : Tryd.prog.cellsOf 3 = 1 := by kernel_rfl
theorem oi_c5 : Tryd.prog.cellsOf 5 = 1 := by kernel_rfl
theorem oi_c23 : Tryd.prog.cellsOf 23 = 32 := by kernel_rfl
theorem oi_c25 : Tryd.prog.cellsOf 25 = 33 := by kernel_rfl
theorem oi_c54 : Tryd.prog.cellsOf 54 = 65 := by kernel_rfl
set_option maxRecDepth 100000 in
theorem open_items {H : Type} {enc : TypeId × Value → H} {w : World} {held : Bool} {v : Value} {d : DataW H} {p : List MemPlace} {r : Reach} {b0 : Nat} (hv : Value.okWide Tryd.prog w r b0 55 v) (h : DataW.Trod enc Tryd.prog w 0 (fun _ => true) held 55 v d p) :
    ∃ (A : Option Addr) (l : List Itm) (c : Nat), v = .slice A l.length c ∧ l.length ≤ c ∧ l.length ≤ 9223372036854775807 ∧ (∀ i ∈ l, i.OK) ∧ (∀ i ∈ l, -9223372036854775808 ≤ i.ct ∧ i.ct ≤ 9223372036854775807) ∧ Rc w [] A (cel Itm.cells l) := by
  obtain ⟨fuel, hf⟩ := h
  obtain ⟨A, Ws, c, h1, h2, h3, h4, h5⟩ := cells_slice Tryd.underlying55 oi_c54 (by decide) hf
  obtain ⟨l, hl, hs⟩ := choose_map (f := Itm.cells) (Pr := fun i => i.OK ∧ -9223372036854775808 ≤ i.ct ∧ i.ct ≤ 9223372036854775807) Ws (fun W hW => by
    obtain ⟨hl, m, y, hy⟩ := h4 W hW
    obtain ⟨xs, n, _, _, _, hxl, hel⟩ := DataW.trod_struct Tryd.underlying54 hy
    have hxl2 : xs.length = 2 := hxl
    have g (i : Nat) (hi : i < 2) : xs[i]? = some xs[i] := List.getElem?_eq_getElem (by omega)
    have f0 : DataW.trod enc Tryd.prog w 0 (fun _ => true) held n 23 ((W.drop 0).take (Tryd.prog.cellsOf 23)) = xs[0]? := hel 0 _ rfl
    rw [g 0 (by omega), oi_c23] at f0
    have f1 : DataW.trod enc Tryd.prog w 0 (fun _ => true) held n 25 ((W.drop 32).take (Tryd.prog.cellsOf 25)) = xs[1]? := hel 1 _ rfl
    rw [g 1 (by omega), oi_c25] at f1
    obtain ⟨k, e0, hk⟩ := cells_array Tryd.underlying23 Tryd.underlying5 oi_c5 (by rw [List.length_take, List.length_drop]; omega) f0
    obtain ⟨ys, m2, _, _, _, hyl, hey⟩ := DataW.trod_struct Tryd.underlying25 f1
    have hyl2 : ys.length = 2 := hyl
    have q (i : Nat) (hi : i < 2) : ys[i]? = some ys[i] := List.getElem?_eq_getElem (by omega)
    have k0 : DataW.trod enc Tryd.prog w 0 (fun _ => true) held m2 3 ((((W.drop 32).take 33).drop 0).take (Tryd.prog.cellsOf 3)) = ys[0]? := hey 0 _ rfl
    rw [q 0 (by omega), oi_c3] at k0
    have k1 : DataW.trod enc Tryd.prog w 0 (fun _ => true) held m2 23 ((((W.drop 32).take 33).drop 1).take (Tryd.prog.cellsOf 23)) = ys[1]? := hey 1 _ rfl
    rw [q 1 (by omega), oi_c23] at k1
    obtain ⟨ct, e1, l1, u1⟩ := cells_int Tryd.underlying3 k0
    obtain ⟨ch, e2, hch⟩ := cells_array Tryd.underlying23 Tryd.underlying5 oi_c5 (by rw [List.length_take, List.length_drop, List.length_take, List.length_drop]; omega) k1
    refine ⟨⟨k, ct, ch⟩, ?_, ⟨hk, hch⟩, l1, u1⟩
    have s0 := cell_split W 0 32
    have s1 := cell_split W 32 33
    have t0 := cell_split ((W.drop 32).take 33) 0 1
    have t1 := cell_split ((W.drop 32).take 33) 1 32
    rw [e0] at s0
    rw [e1] at t0
    rw [e2] at t1
    have z1 : ((W.drop 32).take 33).drop (1 + 32) = [] := List.drop_of_length_le (by rw [List.length_take]; omega)
    have z2 : W.drop (32 + 33) = [] := List.drop_of_length_le (by omega)
    rw [z1] at t1
    rw [z2] at s1
    rw [List.drop_zero] at s0 t0
    rw [t1] at t0
    rw [t0] at s1
    rw [s0, s1]
    simp [Itm.cells, Itm.ent])
  subst hl
  rw [List.length_map] at h1 h2 h3
  refine ⟨A, l, c, slice_of_cells Tryd.underlying55 hv h1, h2, h3, fun i hi => (hs i hi).1, fun i hi => (hs i hi).2, h5.rc⟩
end Go.Proofs.YtpomngkcfbnjoaaDoor
