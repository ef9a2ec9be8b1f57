/- How a case and an entry are opened. -/
import Derived.Test.YtepbmdlgdaedpaaGreatDoorOpenEv
import Derived.Test.YtepbmdlgdaedpaaGreatDoorSt1
namespace Go.Proofs.YtepbmdlgdaedpaaGreatDoor
open Go.ChangeShapes Go.WideShapes Go.ChangeAt Go.RowKit Go.Dk Go.Deep

theorem oc_c3 : Tryz.prog.cellsOf 3 = 1 := by kernel_rfl
theorem oc_c5 : Tryz.prog.cellsOf 5 = 1 := by kernel_rfl
theorem oc_c9 : Tryz.prog.cellsOf 9 = 1 := by kernel_rfl
theorem oc_c23 : Tryz.prog.cellsOf 23 = 1 := by kernel_rfl
theorem oc_c25 : Tryz.prog.cellsOf 25 = 4 := by kernel_rfl
theorem oc_c29 : Tryz.prog.cellsOf 29 = 32 := by kernel_rfl
theorem oc_c49 : Tryz.prog.cellsOf 49 = 33 := by kernel_rfl
theorem oc_c50 : Tryz.prog.cellsOf 50 = 1 := by kernel_rfl
theorem oc_c52 : Tryz.prog.cellsOf 52 = 39 := by kernel_rfl
theorem oc_c76 : Tryz.prog.cellsOf 76 = 5 := by kernel_rfl
set_option maxRecDepth 100000 in
theorem cells_bind {H : Type} {enc : TypeId × Value → H} {w : World} {held : Bool} {cs : List Value} {x : DataW H × List MemPlace} {fuel : Nat} (hlen : cs.length = 5) (h : DataW.trod enc Tryz.prog w 0 (fun _ => true) held fuel 76 cs = some x) : ∃ b : List UInt8 × VA, cs = bndC b ∧ b.2.Ok w [] := by
  obtain ⟨xs, n, _, _, _, xsl, xse⟩ := DataW.trod_struct Tryz.underlying76 h
  have xs2 : xs.length = 2 := xsl
  have g (i : Nat) (hi : i < 2) : xs[i]? = some xs[i] := List.getElem?_eq_getElem (by omega)
  have f0 : DataW.trod enc Tryz.prog w 0 (fun _ => true) held n 9 (((cs).drop 0).take (Tryz.prog.cellsOf 9)) = xs[0]? := xse 0 _ rfl
  rw [g 0 (by omega), oc_c9] at f0
  have f1 : DataW.trod enc Tryz.prog w 0 (fun _ => true) held n 25 (((cs).drop 1).take (Tryz.prog.cellsOf 25)) = xs[1]? := xse 1 _ rfl
  rw [g 1 (by omega), oc_c25] at f1
  obtain ⟨nm, e0⟩ := cells_str Tryz.underlying9 f0
  obtain ⟨va, e1, hva⟩ := cells_val (by simp only [List.length_take, List.length_drop]; omega) f1
  refine ⟨(nm, va), ?_, hva⟩
  have s0 := cell_split (cs) 0 1
  have s1 := cell_split (cs) 1 4
  rw [e0] at s0
  rw [e1] at s1
  have z1 : cs.drop (1 + 4) = [] := List.drop_of_length_le (by omega)
  rw [z1] at s1
  rw [List.drop_zero] at s0
  rw [s0, s1]
  simp [bndC, VA.cells, Val.cells]
set_option maxRecDepth 100000 in
theorem cells_case {H : Type} {enc : TypeId × Value → H} {w : World} {held : Bool} {cs : List Value} {x : DataW H × List MemPlace} {fuel : Nat} (hlen : cs.length = 39) (h : DataW.trod enc Tryz.prog w 0 (fun _ => true) held fuel 52 cs = some x) : ∃ c : CA, cs = c.cells ∧ c.Ok w [] := by
  obtain ⟨xs, n, _, _, _, xsl, xse⟩ := DataW.trod_struct Tryz.underlying52 h
  have xs2 : xs.length = 8 := xsl
  have g (i : Nat) (hi : i < 8) : xs[i]? = some xs[i] := List.getElem?_eq_getElem (by omega)
  have f0 : DataW.trod enc Tryz.prog w 0 (fun _ => true) held n 9 (((cs).drop 0).take (Tryz.prog.cellsOf 9)) = xs[0]? := xse 0 _ rfl
  rw [g 0 (by omega), oc_c9] at f0
  have f1 : DataW.trod enc Tryz.prog w 0 (fun _ => true) held n 9 (((cs).drop 1).take (Tryz.prog.cellsOf 9)) = xs[1]? := xse 1 _ rfl
  rw [g 1 (by omega), oc_c9] at f1
  have f2 : DataW.trod enc Tryz.prog w 0 (fun _ => true) held n 3 (((cs).drop 2).take (Tryz.prog.cellsOf 3)) = xs[2]? := xse 2 _ rfl
  rw [g 2 (by omega), oc_c3] at f2
  have f3 : DataW.trod enc Tryz.prog w 0 (fun _ => true) held n 29 (((cs).drop 3).take (Tryz.prog.cellsOf 29)) = xs[3]? := xse 3 _ rfl
  rw [g 3 (by omega), oc_c29] at f3
  have f4 : DataW.trod enc Tryz.prog w 0 (fun _ => true) held n 50 (((cs).drop 35).take (Tryz.prog.cellsOf 50)) = xs[4]? := xse 4 _ rfl
  rw [g 4 (by omega), oc_c50] at f4
  have f5 : DataW.trod enc Tryz.prog w 0 (fun _ => true) held n 23 (((cs).drop 36).take (Tryz.prog.cellsOf 23)) = xs[5]? := xse 5 _ rfl
  rw [g 5 (by omega), oc_c23] at f5
  have f6 : DataW.trod enc Tryz.prog w 0 (fun _ => true) held n 23 (((cs).drop 37).take (Tryz.prog.cellsOf 23)) = xs[6]? := xse 6 _ rfl
  rw [g 6 (by omega), oc_c23] at f6
  have f7 : DataW.trod enc Tryz.prog w 0 (fun _ => true) held n 23 (((cs).drop 38).take (Tryz.prog.cellsOf 23)) = xs[7]? := xse 7 _ rfl
  rw [g 7 (by omega), oc_c23] at f7
  obtain ⟨nm, e0⟩ := cells_str Tryz.underlying9 f0
  obtain ⟨ty, e1⟩ := cells_str Tryz.underlying9 f1
  obtain ⟨cn, e2, _, _⟩ := cells_int Tryz.underlying3 f2
  obtain ⟨ch, e3, hch⟩ := cells_array Tryz.underlying29 Tryz.underlying5 oc_c5 (by simp only [List.length_take, List.length_drop]; omega) f3
  obtain ⟨vA, Ws, vC, e4, _, a3, a4, a5⟩ := cells_slice Tryz.underlying50 oc_c76 (by decide) f4
  obtain ⟨bs, hbs, hok⟩ := choose_map (f := bndC) (Pr := fun b => b.2.Ok w []) Ws (fun W hW => by
    obtain ⟨hl, m, y, hy⟩ := a4 W hW
    exact cells_bind hl hy)
  subst hbs
  rw [List.length_map] at e4 a3
  obtain ⟨oA, opn, oC, e5, o1, o2⟩ := cells_strs f5
  obtain ⟨cA, clo, cC, e6, c1, c2⟩ := cells_strs f6
  obtain ⟨rA, rea, rC, e7, r1, r2⟩ := cells_strs f7
  refine ⟨⟨nm, ty, cn, ch, bs, vA, vC, opn, oA, oC, clo, cA, cC, rea, rA, rC⟩, ?_, ⟨hch, hok, a5.rc, a3, o2, o1, c2, c1, r2, r1⟩⟩
  have s0 := cell_split (cs) 0 1
  have s1 := cell_split (cs) 1 1
  have s2 := cell_split (cs) 2 1
  have s3 := cell_split (cs) 3 32
  have s4 := cell_split (cs) 35 1
  have s5 := cell_split (cs) 36 1
  have s6 := cell_split (cs) 37 1
  have s7 := cell_split (cs) 38 1
  rw [e0] at s0
  rw [e1] at s1
  rw [e2] at s2
  rw [e3] at s3
  rw [e4] at s4
  rw [e5] at s5
  rw [e6] at s6
  rw [e7] at s7
  have z7 : cs.drop (38 + 1) = [] := List.drop_of_length_le (by omega)
  rw [z7] at s7
  rw [List.drop_zero] at s0
  rw [s0, s1, s2, s3, s4, s5, s6, s7]
  simp [CA.cells, CA.tl]
set_option maxRecDepth 100000 in
theorem cells_entry {H : Type} {enc : TypeId × Value → H} {w : World} {held : Bool} {cs : List Value} {x : DataW H × List MemPlace} {fuel : Nat} (hlen : cs.length = 33) (h : DataW.trod enc Tryz.prog w 0 (fun _ => true) held fuel 49 cs = some x) : ∃ (n : Int) (d : List UInt8), cs = .int .i64 n :: dc d ∧ (-9223372036854775808 ≤ n ∧ n ≤ 9223372036854775807) ∧ d.length = 32 := by
  obtain ⟨xs, n, _, _, _, xsl, xse⟩ := DataW.trod_struct Tryz.underlying49 h
  have xs2 : xs.length = 2 := xsl
  have g (i : Nat) (hi : i < 2) : xs[i]? = some xs[i] := List.getElem?_eq_getElem (by omega)
  have f0 : DataW.trod enc Tryz.prog w 0 (fun _ => true) held n 3 (((cs).drop 0).take (Tryz.prog.cellsOf 3)) = xs[0]? := xse 0 _ rfl
  rw [g 0 (by omega), oc_c3] at f0
  have f1 : DataW.trod enc Tryz.prog w 0 (fun _ => true) held n 29 (((cs).drop 1).take (Tryz.prog.cellsOf 29)) = xs[1]? := xse 1 _ rfl
  rw [g 1 (by omega), oc_c29] at f1
  obtain ⟨cn, e0, k1, k2⟩ := cells_int Tryz.underlying3 f0
  obtain ⟨ch, e1, hch⟩ := cells_array Tryz.underlying29 Tryz.underlying5 oc_c5 (by simp only [List.length_take, List.length_drop]; omega) f1
  refine ⟨cn, ch, ?_, ⟨k1, k2⟩, hch⟩
  have s0 := cell_split (cs) 0 1
  have s1 := cell_split (cs) 1 32
  rw [e0] at s0
  rw [e1] at s1
  have z1 : cs.drop (1 + 32) = [] := List.drop_of_length_le (by omega)
  rw [z1] at s1
  rw [List.drop_zero] at s0
  rw [s0, s1]
  simp
set_option maxRecDepth 100000 in
theorem open_case {H : Type} {enc : TypeId × Value → H} {w : World} {held : Bool} {v : Value} {d : DataW H} {p : List MemPlace} {r : Reach} {b0 : Nat} (hv : Value.okWide Tryz.prog w r b0 52 v) (h : DataW.Trod enc Tryz.prog w 0 (fun _ => true) held 52 v d p) : ∃ c : CA, v = .agg c.cells.toArray ∧ c.Ok w [] := by
  obtain ⟨cs, rfl, hsz⟩ : ∃ cs, v = .agg cs ∧ cs.size = Tryz.prog.cellsOf 52 := by
    obtain ⟨cs, h1, h2, _⟩ : ∃ cs, v = .agg cs ∧ cs.size = Tryz.prog.cellsOf 52 ∧ Row.okWide Tryz.prog w r b0 52 cs := by simpa [Value.okWide, Tryz.underlying52] using hv
    exact ⟨cs, h1, h2⟩
  rw [oc_c52] at hsz
  obtain ⟨fuel, hf⟩ := h
  have hc : (Value.agg cs).cells.toList = cs.toList := rfl
  rw [hc] at hf
  obtain ⟨a, h1, h2⟩ := cells_case (by simpa using hsz) hf
  exact ⟨a, by rw [← h1], h2⟩
set_option maxRecDepth 100000 in
theorem open_entry {H : Type} {enc : TypeId × Value → H} {w : World} {held : Bool} {v : Value} {d : DataW H} {p : List MemPlace} {r : Reach} {b0 : Nat} (hv : Value.okWide Tryz.prog w r b0 49 v) (h : DataW.Trod enc Tryz.prog w 0 (fun _ => true) held 49 v d p) : ∃ (n : Int) (d : List UInt8), v = .agg (.int .i64 n :: dc d : List Value).toArray ∧ (-9223372036854775808 ≤ n ∧ n ≤ 9223372036854775807) ∧ d.length = 32 := by
  obtain ⟨cs, rfl, hsz⟩ : ∃ cs, v = .agg cs ∧ cs.size = Tryz.prog.cellsOf 49 := by
    obtain ⟨cs, h1, h2, _⟩ : ∃ cs, v = .agg cs ∧ cs.size = Tryz.prog.cellsOf 49 ∧ Row.okWide Tryz.prog w r b0 49 cs := by simpa [Value.okWide, Tryz.underlying49] using hv
    exact ⟨cs, h1, h2⟩
  rw [oc_c49] at hsz
  obtain ⟨fuel, hf⟩ := h
  have hc : (Value.agg cs).cells.toList = cs.toList := rfl
  rw [hc] at hf
  obtain ⟨a, b, h1, h2, h3⟩ := cells_entry (by simpa using hsz) hf
  exact ⟨a, b, by rw [← h1], h2, h3⟩
set_option maxRecDepth 100000 in
theorem open_strs {H : Type} {enc : TypeId × Value → H} {w : World} {held : Bool} {v : Value} {d : DataW H} {p : List MemPlace} {r : Reach} {b0 : Nat} (hv : Value.okWide Tryz.prog w r b0 23 v) (h : DataW.Trod enc Tryz.prog w 0 (fun _ => true) held 23 v d p) : ∃ (A : Option Addr) (l : List (List UInt8)) (c : Nat), v = .slice A l.length c ∧ l.length ≤ 9223372036854775807 ∧ Rc w [] A (l.map strV) := by
  obtain ⟨fuel, hf⟩ := h
  obtain ⟨A, l, c, h1, h2, h3⟩ := cells_strs hf
  exact ⟨A, l, c, slice_of_cells Tryz.underlying23 hv h1, h2, h3⟩
end Go.Proofs.YtepbmdlgdaedpaaGreatDoor
