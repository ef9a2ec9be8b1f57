/- How an argument of the law's type Parts is opened whole. -/
import Derived.Test.YtppmhlkonemebaaDoorOpenParts
import Derived.Test.YtppmhlkonemebaaDoorSlD
namespace Go.Proofs.YtppmhlkonemebaaDoor
open Go.ChangeShapes Go.WideShapes Go.ChangeAt Go.RowKit Go.Dk Go.Deep
section
variable {H : Type} {enc : TypeId × Value → H} {w : World} {held : Bool}
set_option maxRecDepth 100000 in
theorem open_parts_all {v : Value} {d : DataW H} {p : List MemPlace} {r : Reach} {b0 : Nat} {ts : List TypeId} {ds : List (DataW H)} {j : Nat} (hv : Value.okWide Tryd.prog w r b0 64 v) (h : DataW.Trod enc Tryd.prog w 0 (fun _ => true) held 64 v d p)
    (hz : (DataW.weightsEach Tryd.prog ts ds).all (· ≤ reachBytes) = true) (htj : ts[j]? = some 64) (hdj : ds[j]? = some d) :
    ∃ pw pd pc ph X Y PA l cp pa ps pk, v = .agg (PC pw pd pc ph X Y (.slice PA (l : List UInt8).length cp) (.slice pa (ps : List Piece).length pk)).toArray ∧ X.length = 32 ∧ Y.length = 32 ∧ l.length ≤ cp ∧ Bts w PA l ∧ cp < 140737488351300 ∧ PcS w [] pa ps ∧ (∀ p ∈ ps, p.2.2.length < 140737488351300) ∧ ps.length ≤ 9223372036854775807 := by
  obtain ⟨cs, rfl, hsz⟩ : ∃ cs, v = .agg cs ∧ cs.size = Tryd.prog.cellsOf 64 := by
    obtain ⟨cs, h1, h2, _⟩ : ∃ cs, v = .agg cs ∧ cs.size = Tryd.prog.cellsOf 64 ∧ Row.okWide Tryd.prog w r b0 64 cs := by simpa [Value.okWide, Tryd.underlying64] using hv
    exact ⟨cs, h1, h2⟩
  rw [op_cells64] at hsz
  obtain ⟨fuel, hf⟩ := h
  obtain ⟨xs, n, _, hx, _, hxl, hel⟩ := DataW.trod_struct Tryd.underlying64 hf
  have hlen : cs.toList.length = 70 := by simpa using hsz
  have hc : (Value.agg cs).cells.toList = cs.toList := rfl
  rw [hc] at hel
  have hxl8 : xs.length = 8 := hxl
  have g (i : Nat) (hi : i < 8) : xs[i]? = some xs[i] := List.getElem?_eq_getElem (by omega)
  have f0 : DataW.trod enc Tryd.prog w 0 (fun _ => true) held n 3 ((cs.toList.drop 0).take (Tryd.prog.cellsOf 3)) = xs[0]? := hel 0 _ rfl
  have f1 : DataW.trod enc Tryd.prog w 0 (fun _ => true) held n 3 ((cs.toList.drop 1).take (Tryd.prog.cellsOf 3)) = xs[1]? := hel 1 _ rfl
  have f2 : DataW.trod enc Tryd.prog w 0 (fun _ => true) held n 3 ((cs.toList.drop 2).take (Tryd.prog.cellsOf 3)) = xs[2]? := hel 2 _ rfl
  have f3 : DataW.trod enc Tryd.prog w 0 (fun _ => true) held n 3 ((cs.toList.drop 3).take (Tryd.prog.cellsOf 3)) = xs[3]? := hel 3 _ rfl
  have f4 : DataW.trod enc Tryd.prog w 0 (fun _ => true) held n 36 ((cs.toList.drop 4).take (Tryd.prog.cellsOf 36)) = xs[4]? := hel 4 _ rfl
  have f5 : DataW.trod enc Tryd.prog w 0 (fun _ => true) held n 36 ((cs.toList.drop 36).take (Tryd.prog.cellsOf 36)) = xs[5]? := hel 5 _ rfl
  have f6 : DataW.trod enc Tryd.prog w 0 (fun _ => true) held n 24 ((cs.toList.drop 68).take (Tryd.prog.cellsOf 24)) = xs[6]? := hel 6 _ rfl
  rw [g 0 (by omega), op_cells3] at f0
  rw [g 1 (by omega), op_cells3] at f1
  rw [g 2 (by omega), op_cells3] at f2
  rw [g 3 (by omega), op_cells3] at f3
  rw [g 4 (by omega), op_cells36] at f4
  rw [g 5 (by omega), op_cells36] at f5
  rw [g 6 (by omega), op_cells24] at f6
  have f7 : DataW.trod enc Tryd.prog w 0 (fun _ => true) held n 29 ((cs.toList.drop 69).take (Tryd.prog.cellsOf 29)) = xs[7]? := hel 7 _ rfl
  rw [g 7 (by omega), op_cells29] at f7
  obtain ⟨z0, e0, _, _⟩ := DataW.trod_int Tryd.underlying3 f0
  obtain ⟨z1, e1, _, _⟩ := DataW.trod_int Tryd.underlying3 f1
  obtain ⟨z2, e2, _, _⟩ := DataW.trod_int Tryd.underlying3 f2
  obtain ⟨z3, e3, _, _⟩ := DataW.trod_int Tryd.underlying3 f3
  obtain ⟨X, eX, hX⟩ := op_array (by rw [List.length_take, List.length_drop]; omega) f4
  obtain ⟨Y, eY, hY⟩ := op_array (by rw [List.length_take, List.length_drop]; omega) f5
  obtain ⟨A, c, l, eP, hlc, hB, hd⟩ := open_byte_cells Tryd.underlying24 Tryd.underlying5 op_cells5 f6
  have hd' : d = .agg (xs.map (·.1)) := (Prod.mk.inj hx).1
  obtain ⟨pa, Ws, pk, g1, _, g3, g4, g5⟩ := cells_sliceD Tryd.underlying29 op_cells24 (by decide) f7
  obtain ⟨ps, hl, hs⟩ := choose_map (f := fun p : Piece => [pieceV p]) (Pr := fun p : Piece => p.2.2.length ≤ p.2.1 ∧ Rd w [] p.1 p.2.2 ∧ p.2.2.length < 140737488351300) Ws (fun W hW => by
    obtain ⟨hl, m, y, hy, es, sp, hd, hye⟩ := g4 W hW
    obtain ⟨PA, c2, l, e2, hlc, hB, hd2⟩ := open_byte_cells Tryd.underlying24 Tryd.underlying5 op_cells5 hy
    refine ⟨(PA, c2, l), e2, hlc, Rd.old hB, ?_⟩
    have hrb : reachBytes < 140737488351300 := by decide
    have hds : c2 ≤ reachBytes := by
      rcases hd2 with ⟨_, rfl, _⟩ | ⟨es2, sp2, he, hc, _⟩
      · exact Nat.zero_le _
      · have hm : (es2.length + sp2.length) * Tryd.prog.bytesOf 5 ∈ DataW.weights Tryd.prog 24 y.1 := by
          rw [he, DataW.weights, Tryd.underlying24]
          exact List.mem_cons_self ..
        have hm2 := weight_elem (sp := sp) Tryd.underlying29 hye hm
        have hm3 : (es2.length + sp2.length) * Tryd.prog.bytesOf 5 ∈ DataW.weights Tryd.prog 64 d := by
          rw [hd', DataW.weights, Tryd.underlying64]
          refine DataW.weights_mem_each (j := 7) (t := 29) (d := xs[7].1) rfl (by rw [List.getElem?_map, g 7 (by omega)]; rfl) _ ?_
          rw [hd]; exact hm2
        have h6 := List.all_eq_true.1 hz _ (DataW.weights_mem_each htj hdj _ hm3)
        rw [op_bytes5, Nat.mul_one, hc] at h6
        simpa using h6
    show l.length < _
    omega)
  subst hl
  rw [List.length_map] at g1 g3
  rw [flat_ones] at g5
  have eQ : cs.toList.drop 69 = [.slice pa ps.length pk] := by
    rw [← g1, List.take_of_length_le (by rw [List.length_drop]; omega)]
  have hall : cs.toList = PC z0 z1 z2 z3 X Y (.slice A l.length c) (.slice pa ps.length pk) := by
    have s0 := op_split cs.toList 0 1
    have s1 := op_split cs.toList 1 1
    have s2 := op_split cs.toList 2 1
    have s3 := op_split cs.toList 3 1
    have s4 := op_split cs.toList 4 32
    have s5 := op_split cs.toList 36 32
    have s6 := op_split cs.toList 68 1
    rw [e0] at s0
    rw [e1] at s1
    rw [e2] at s2
    rw [e3] at s3
    rw [eX] at s4
    rw [eY] at s5
    rw [eP] at s6
    rw [List.drop_zero] at s0
    rw [s0, s1, s2, s3, s4, s5, s6, eQ]
    simp [PC]
  have hds : c < 140737488351300 := by
    rcases hd with ⟨_, rfl, _⟩ | ⟨es, sp, he, hc, _⟩
    · decide
    · have hm : (es.length + sp.length) * Tryd.prog.bytesOf 5 ∈ DataW.weights Tryd.prog 64 d := by
        rw [hd', DataW.weights, Tryd.underlying64]
        refine DataW.weights_mem_each (j := 6) (t := 24) (d := xs[6].1) rfl (by rw [List.getElem?_map, g 6 (by omega)]; rfl) _ ?_
        rw [he, DataW.weights, Tryd.underlying24]
        exact List.mem_cons_self ..
      have h1 := List.all_eq_true.1 hz _ (DataW.weights_mem_each htj hdj _ hm)
      rw [op_bytes5, Nat.mul_one, hc] at h1
      have h2 : c ≤ reachBytes := by simpa using h1
      have : reachBytes < 140737488351300 := by decide
      omega
  refine ⟨z0, z1, z2, z3, X, Y, A, l, c, pa, ps, pk, ?_, hX, hY, hlc, hB, hds, ⟨g5.rc, fun p hp => ⟨(hs p hp).1, (hs p hp).2.1⟩⟩, fun p hp => (hs p hp).2.2, g3⟩
  congr 1
  apply Array.ext'
  rw [hall]
end
end Go.Proofs.YtppmhlkonemebaaDoor
