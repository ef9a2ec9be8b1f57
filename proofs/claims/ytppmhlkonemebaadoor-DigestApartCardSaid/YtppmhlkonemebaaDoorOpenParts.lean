/- How an argument of the law's type Parts is opened. -/
import Derived.Test.YtppmhlkonemebaaDoorTab4
import Derived.Test.YtppmhlkonemebaaDoorOpenS
namespace Go.Proofs.YtppmhlkonemebaaDoor
open Go.ChangeShapes Go.WideShapes Go.ChangeAt Go.RowKit Go.Dk

theorem op_cells5 : Tryd.prog.cellsOf 5 = 1 := by kernel_rfl
theorem op_cells3 : Tryd.prog.cellsOf 3 = 1 := by kernel_rfl
theorem op_cells24 : Tryd.prog.cellsOf 24 = 1 := by kernel_rfl
theorem op_cells29 : Tryd.prog.cellsOf 29 = 1 := by kernel_rfl
theorem op_cells36 : Tryd.prog.cellsOf 36 = 32 := by kernel_rfl
theorem op_cells64 : Tryd.prog.cellsOf 64 = 70 := by kernel_rfl
theorem op_bytes5 : Tryd.prog.bytesOf 5 = 1 := by kernel_rfl
section
variable {H : Type} {enc : TypeId × Value → H} {w : World} {held : Bool}
theorem op_array {fuel : Nat} {cs : List Value} {x : DataW H × List MemPlace} (hcs : cs.length = 32) (h : DataW.trod enc Tryd.prog w 0 (fun _ => true) held fuel 36 cs = some x) : ∃ D : List UInt8, cs = dc D ∧ D.length = 32 := by
  obtain ⟨xs, m, _, _, _, hl, hel⟩ := DataW.trod_array Tryd.underlying36 h
  refine ⟨cs.map Go.Dk.byteOf, ?_, by simpa using hcs⟩
  apply List.ext_getElem
  · simp [dc]
  · intro i h1 h2
    have hi : i < 32 := by omega
    have h3 := hel i hi
    rw [op_cells5, Nat.mul_one, List.getElem?_eq_getElem (by omega)] at h3
    obtain ⟨z, hz, _, hw⟩ := DataW.trod_int Tryd.underlying5 h3
    have hcell : cs[i] = .int .u8 z := by
      have h4 : (cs.drop i).take 1 = [cs[i]'(by omega)] := by rw [List.drop_eq_getElem_cons (by omega)]; rfl
      rw [h4] at hz
      exact (List.cons.inj hz).1
    simp [dc, hcell, Go.Dk.byteOf_ok hw]
theorem op_split (l : List Value) (k m : Nat) : l.drop k = (l.drop k).take m ++ l.drop (k + m) := by
  rw [← List.drop_drop]
  exact (List.take_append_drop m _).symm
theorem op_range {z : Int} (h : (Lit.int .i64 z).wf = true) : -9223372036854775808 ≤ z ∧ z ≤ 9223372036854775807 := by
  simpa [Lit.wf, IntKind.min, IntKind.max, IntKind.signed, IntKind.bits] using h
set_option maxRecDepth 100000 in
theorem open_parts {v : Value} {d : DataW H} {p : List MemPlace} {r : Reach} {b0 : Nat} {ts : List TypeId} {ds : List (DataW H)} {j : Nat} (hv : Value.okWide Tryd.prog w r b0 64 v) (h : DataW.Trod enc Tryd.prog w 0 (fun _ => true) held 64 v d p)
    (hz : (DataW.weightsEach Tryd.prog ts ds).all (· ≤ reachBytes) = true) (htj : ts[j]? = some 64) (hdj : ds[j]? = some d) :
    ∃ pw pd pc ph X Y PA l cp pq, v = .agg (PC pw pd pc ph X Y (.slice PA (l : List UInt8).length cp) pq).toArray ∧ X.length = 32 ∧ Y.length = 32 ∧ l.length ≤ cp ∧ Bts w PA l ∧ cp < 140737488351300 ∧ (-9223372036854775808 ≤ pc ∧ pc ≤ 9223372036854775807) := by
  obtain ⟨cs, rfl, hsz⟩ : ∃ cs, v = .agg cs ∧ cs.size = Tryd.prog.cellsOf 64 := by
    obtain ⟨cs, h1, h2, _⟩ : ∃ cs, v = .agg cs ∧ cs.size = Tryd.prog.cellsOf 64 ∧ Row.okWide Tryd.prog w r b0 64 cs := by simpa [Value.okWide, Tryd.underlying64] using hv
    exact ⟨cs, h1, h2⟩
  rw [op_cells64] at hsz
  obtain ⟨fuel, hf⟩ := h
  obtain ⟨xs, n, _, hx, _, hxl, hel⟩ := DataW.trod_struct Tryd.underlying64 hf
  have hlen : cs.toList.length = 70 := by simpa using hsz
  have hc : (Value.agg cs).cells.toList = cs.toList := rfl
  rw [hc] at hel
  have hxl8 : xs.length = 8 := hxl
  have g (i : Nat) (hi : i < 8) : xs[i]? = some xs[i] := List.getElem?_eq_getElem (by omega)
  have f0 : DataW.trod enc Tryd.prog w 0 (fun _ => true) held n 3 ((cs.toList.drop 0).take (Tryd.prog.cellsOf 3)) = xs[0]? := hel 0 _ rfl
  have f1 : DataW.trod enc Tryd.prog w 0 (fun _ => true) held n 3 ((cs.toList.drop 1).take (Tryd.prog.cellsOf 3)) = xs[1]? := hel 1 _ rfl
  have f2 : DataW.trod enc Tryd.prog w 0 (fun _ => true) held n 3 ((cs.toList.drop 2).take (Tryd.prog.cellsOf 3)) = xs[2]? := hel 2 _ rfl
  have f3 : DataW.trod enc Tryd.prog w 0 (fun _ => true) held n 3 ((cs.toList.drop 3).take (Tryd.prog.cellsOf 3)) = xs[3]? := hel 3 _ rfl
  have f4 : DataW.trod enc Tryd.prog w 0 (fun _ => true) held n 36 ((cs.toList.drop 4).take (Tryd.prog.cellsOf 36)) = xs[4]? := hel 4 _ rfl
  have f5 : DataW.trod enc Tryd.prog w 0 (fun _ => true) held n 36 ((cs.toList.drop 36).take (Tryd.prog.cellsOf 36)) = xs[5]? := hel 5 _ rfl
  have f6 : DataW.trod enc Tryd.prog w 0 (fun _ => true) held n 24 ((cs.toList.drop 68).take (Tryd.prog.cellsOf 24)) = xs[6]? := hel 6 _ rfl
  rw [g 0 (by omega), op_cells3] at f0
  rw [g 1 (by omega), op_cells3] at f1
  rw [g 2 (by omega), op_cells3] at f2
  rw [g 3 (by omega), op_cells3] at f3
  rw [g 4 (by omega), op_cells36] at f4
  rw [g 5 (by omega), op_cells36] at f5
  rw [g 6 (by omega), op_cells24] at f6
  obtain ⟨z0, e0, _, _⟩ := DataW.trod_int Tryd.underlying3 f0
  obtain ⟨z1, e1, _, _⟩ := DataW.trod_int Tryd.underlying3 f1
  obtain ⟨z2, e2, _, hw2⟩ := DataW.trod_int Tryd.underlying3 f2
  obtain ⟨z3, e3, _, _⟩ := DataW.trod_int Tryd.underlying3 f3
  obtain ⟨X, eX, hX⟩ := op_array (by rw [List.length_take, List.length_drop]; omega) f4
  obtain ⟨Y, eY, hY⟩ := op_array (by rw [List.length_take, List.length_drop]; omega) f5
  obtain ⟨A, c, l, eP, hlc, hB, hd⟩ := open_byte_cells Tryd.underlying24 Tryd.underlying5 op_cells5 f6
  obtain ⟨q, eQ⟩ : ∃ q, cs.toList.drop 69 = [q] := List.length_eq_one_iff.1 (by rw [List.length_drop]; omega)
  have hall : cs.toList = PC z0 z1 z2 z3 X Y (.slice A l.length c) q := by
    have s0 := op_split cs.toList 0 1
    have s1 := op_split cs.toList 1 1
    have s2 := op_split cs.toList 2 1
    have s3 := op_split cs.toList 3 1
    have s4 := op_split cs.toList 4 32
    have s5 := op_split cs.toList 36 32
    have s6 := op_split cs.toList 68 1
    rw [e0] at s0
    rw [e1] at s1
    rw [e2] at s2
    rw [e3] at s3
    rw [eX] at s4
    rw [eY] at s5
    rw [eP] at s6
    rw [List.drop_zero] at s0
    rw [s0, s1, s2, s3, s4, s5, s6, eQ]
    simp [PC]
  have hds : c < 140737488351300 := by
    rcases hd with ⟨_, rfl, _⟩ | ⟨es, sp, he, hc, _⟩
    · decide
    · have hd' : d = .agg (xs.map (·.1)) := (Prod.mk.inj hx).1
      have hm : (es.length + sp.length) * Tryd.prog.bytesOf 5 ∈ DataW.weights Tryd.prog 64 d := by
        rw [hd', DataW.weights, Tryd.underlying64]
        refine DataW.weights_mem_each (j := 6) (t := 24) (d := xs[6].1) rfl (by rw [List.getElem?_map, g 6 (by omega)]; rfl) _ ?_
        rw [he, DataW.weights, Tryd.underlying24]
        exact List.mem_cons_self ..
      have h1 := List.all_eq_true.1 hz _ (DataW.weights_mem_each htj hdj _ hm)
      rw [op_bytes5, Nat.mul_one, hc] at h1
      have h2 : c ≤ reachBytes := by simpa using h1
      have : reachBytes < 140737488351300 := by decide
      omega
  refine ⟨z0, z1, z2, z3, X, Y, A, l, c, q, ?_, hX, hY, hlc, hB, hds, op_range hw2⟩
  congr 1
  apply Array.ext'
  rw [hall]
end
end Go.Proofs.YtppmhlkonemebaaDoor
