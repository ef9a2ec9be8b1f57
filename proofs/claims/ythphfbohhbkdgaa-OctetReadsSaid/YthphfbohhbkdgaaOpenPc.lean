/- How a script of steps is opened. -/
import Derived.Test.YthphfbohhbkdgaaOps0
import Derived.Test.YthphfbohhbkdgaaCell
namespace Go.Proofs.Ythphfbohhbkdgaa
open Go.ChangeShapes Go.WideShapes Go.ChangeAt Go.RowKit Go.Dk Go.Deep

theorem oo_c3 : Try.prog.cellsOf 3 = 1 := by kernel_rfl
theorem oo_c4 : Try.prog.cellsOf 4 = 1 := by kernel_rfl
theorem oo_c5 : Try.prog.cellsOf 5 = 1 := by kernel_rfl
theorem oo_c9 : Try.prog.cellsOf 9 = 1 := by kernel_rfl
theorem oo_c27 : Try.prog.cellsOf 27 = 1 := by kernel_rfl
theorem oo_c33 : Try.prog.cellsOf 33 = 1 := by kernel_rfl
theorem oo_c34 : Try.prog.cellsOf 34 = 1 := by kernel_rfl
theorem oo_c35 : Try.prog.cellsOf 35 = 1 := by kernel_rfl
theorem oo_c36 : Try.prog.cellsOf 36 = 1 := by kernel_rfl
theorem oo_c38 : Try.prog.cellsOf 38 = 12 := by kernel_rfl
theorem oo_c74 : Try.prog.cellsOf 74 = 32 := by kernel_rfl
set_option maxRecDepth 100000 in
theorem cells_op {H : Type} {enc : TypeId × Value → H} {w : World} {held : Bool} {cs : List Value} {x : DataW H × List MemPlace} {fuel : Nat} (hlen : cs.length = 12) (h : DataW.trod enc Try.prog w 0 (fun _ => true) held fuel 38 cs = some x) :
    ∃ o : OpX, cs = opC o ∧ (OpOK w [] o ∧ OpMore w [] o) ∧ PcS w [] o.qA o.ps := by
  obtain ⟨xs, n, _, hx, _, hxl, hel⟩ := DataW.trod_struct Try.underlying38 h
  have hxl12 : xs.length = 12 := hxl
  have g (i : Nat) (hi : i < 12) : xs[i]? = some xs[i] := List.getElem?_eq_getElem (by omega)
  have f0 : DataW.trod enc Try.prog w 0 (fun _ => true) held n 3 ((cs.drop 0).take (Try.prog.cellsOf 3)) = xs[0]? := hel 0 _ rfl
  rw [g 0 (by omega), oo_c3] at f0
  have f1 : DataW.trod enc Try.prog w 0 (fun _ => true) held n 3 ((cs.drop 1).take (Try.prog.cellsOf 3)) = xs[1]? := hel 1 _ rfl
  rw [g 1 (by omega), oo_c3] at f1
  have f2 : DataW.trod enc Try.prog w 0 (fun _ => true) held n 33 ((cs.drop 2).take (Try.prog.cellsOf 33)) = xs[2]? := hel 2 _ rfl
  rw [g 2 (by omega), oo_c33] at f2
  have f3 : DataW.trod enc Try.prog w 0 (fun _ => true) held n 3 ((cs.drop 3).take (Try.prog.cellsOf 3)) = xs[3]? := hel 3 _ rfl
  rw [g 3 (by omega), oo_c3] at f3
  have f4 : DataW.trod enc Try.prog w 0 (fun _ => true) held n 4 ((cs.drop 4).take (Try.prog.cellsOf 4)) = xs[4]? := hel 4 _ rfl
  rw [g 4 (by omega), oo_c4] at f4
  have f5 : DataW.trod enc Try.prog w 0 (fun _ => true) held n 34 ((cs.drop 5).take (Try.prog.cellsOf 34)) = xs[5]? := hel 5 _ rfl
  rw [g 5 (by omega), oo_c34] at f5
  have f6 : DataW.trod enc Try.prog w 0 (fun _ => true) held n 27 ((cs.drop 6).take (Try.prog.cellsOf 27)) = xs[6]? := hel 6 _ rfl
  rw [g 6 (by omega), oo_c27] at f6
  have f7 : DataW.trod enc Try.prog w 0 (fun _ => true) held n 35 ((cs.drop 7).take (Try.prog.cellsOf 35)) = xs[7]? := hel 7 _ rfl
  rw [g 7 (by omega), oo_c35] at f7
  have f8 : DataW.trod enc Try.prog w 0 (fun _ => true) held n 9 ((cs.drop 8).take (Try.prog.cellsOf 9)) = xs[8]? := hel 8 _ rfl
  rw [g 8 (by omega), oo_c9] at f8
  have f9 : DataW.trod enc Try.prog w 0 (fun _ => true) held n 36 ((cs.drop 9).take (Try.prog.cellsOf 36)) = xs[9]? := hel 9 _ rfl
  rw [g 9 (by omega), oo_c36] at f9
  have f10 : DataW.trod enc Try.prog w 0 (fun _ => true) held n 3 ((cs.drop 10).take (Try.prog.cellsOf 3)) = xs[10]? := hel 10 _ rfl
  rw [g 10 (by omega), oo_c3] at f10
  have f11 : DataW.trod enc Try.prog w 0 (fun _ => true) held n 3 ((cs.drop 11).take (Try.prog.cellsOf 3)) = xs[11]? := hel 11 _ rfl
  rw [g 11 (by omega), oo_c3] at f11
  obtain ⟨z0, e0, l0, u0⟩ := cells_int Try.underlying3 f0
  obtain ⟨z1, e1, l1, u1⟩ := cells_int Try.underlying3 f1
  obtain ⟨z2, e2, l2, u2⟩ := cells_int Try.underlying33 f2
  obtain ⟨z3, e3, l3, u3⟩ := cells_int Try.underlying3 f3
  obtain ⟨z10, e10, l10, u10⟩ := cells_int Try.underlying3 f10
  obtain ⟨z11, e11, l11, u11⟩ := cells_int Try.underlying3 f11
  obtain ⟨b4, e4, _⟩ := DataW.trod_bool Try.underlying4 f4
  obtain ⟨dA, ds, dC, e5, _, l5, h5, r5⟩ := cells_arrays Try.underlying34 Try.underlying74 Try.underlying5 oo_c74 oo_c5 (by decide) f5
  obtain ⟨qA, ps, qC, e6, _, l6, h6, r6⟩ := cells_pieces Try.underlying27 Try.underlying35 Try.underlying5 oo_c35 oo_c5 f6
  obtain ⟨pA, p, pC, e7, h7, l7, r7⟩ := cells_bytes Try.underlying35 Try.underlying5 oo_c5 f7
  obtain ⟨s, e8, l8⟩ := cells_text Try.underlying9 f8
  obtain ⟨sA, ss, sC, e9, _, l9, h9, r9⟩ := cells_texts Try.underlying36 Try.underlying9 oo_c9 f9
  have hz2 : 0 ≤ z2 := l2
  obtain ⟨n2, rfl⟩ := Int.eq_ofNat_of_zero_le hz2
  have hn2 : (n2 : Int) ≤ 18446744073709551615 := u2
  refine ⟨⟨z0, z1, z3, z10, z11, ⟨n2, b4, ds, p, s, ss⟩, ps, dA, dC, qA, qC, pA, pC, sA, sC⟩, ?_, ⟨⟨(show n2 < 18446744073709551616 by omega), ⟨l3, u3⟩, h5, r5.rc, r7.rc, h7, r9.rc, l5, l9, l7, l8⟩, ⟨r6.rc, fun q hq => (h6 q hq).1, l6, h9⟩⟩, ⟨r6.rc, fun q hq => ⟨(h6 q hq).2.1, (h6 q hq).2.2.rc⟩⟩⟩
  have s0 := cell_split cs 0 1
  rw [e0] at s0
  have s1 := cell_split cs 1 1
  rw [e1] at s1
  have s2 := cell_split cs 2 1
  rw [e2] at s2
  have s3 := cell_split cs 3 1
  rw [e3] at s3
  have s4 := cell_split cs 4 1
  rw [e4] at s4
  have s5 := cell_split cs 5 1
  rw [e5] at s5
  have s6 := cell_split cs 6 1
  rw [e6] at s6
  have s7 := cell_split cs 7 1
  rw [e7] at s7
  have s8 := cell_split cs 8 1
  rw [e8] at s8
  have s9 := cell_split cs 9 1
  rw [e9] at s9
  have s10 := cell_split cs 10 1
  rw [e10] at s10
  have s11 := cell_split cs 11 1
  rw [e11] at s11
  rw [List.drop_zero] at s0
  have sE : cs.drop (11 + 1) = [] := List.drop_of_length_le (by omega)
  rw [sE] at s11
  rw [s0, s1, s2, s3, s4, s5, s6, s7, s8, s9, s10, s11]
  rfl
set_option maxRecDepth 100000 in
theorem open_ops {H : Type} {enc : TypeId × Value → H} {w : World} {held : Bool} {v : Value} {d : DataW H} {p : List MemPlace} {r : Reach} {b0 : Nat} (hv : Value.okWide Try.prog w r b0 23 v) (h : DataW.Trod enc Try.prog w 0 (fun _ => true) held 23 v d p) :
    ∃ (sA : Option Addr) (os : List OpX) (sC : Nat), v = .slice sA os.length sC ∧ (∀ o ∈ os, (OpOK w [] o ∧ OpMore w [] o) ∧ PcS w [] o.qA o.ps) ∧ Rc w [] sA (os.map opC).flatten ∧ os.length ≤ 9223372036854775807 := by
  obtain ⟨fuel, hf⟩ := h
  obtain ⟨A, Ws, c, h1, _, h3, h4, h5⟩ := cells_slice Try.underlying23 oo_c38 (by decide) hf
  obtain ⟨os, hl, hs⟩ := choose_map (f := opC) (Pr := fun o => (OpOK w [] o ∧ OpMore w [] o) ∧ PcS w [] o.qA o.ps) Ws (fun W hW => by
    obtain ⟨hl, m, y, hy⟩ := h4 W hW
    exact cells_op hl hy)
  subst hl
  rw [List.length_map] at h1 h3
  exact ⟨A, os, c, slice_of_cells Try.underlying23 hv h1, hs, h5.rc, h3⟩
end Go.Proofs.Ythphfbohhbkdgaa
