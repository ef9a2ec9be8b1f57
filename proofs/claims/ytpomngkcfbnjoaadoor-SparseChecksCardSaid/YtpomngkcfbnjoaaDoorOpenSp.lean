/- How an argument of the type Proof is opened. -/
import Derived.Test.YtpomngkcfbnjoaaDoorSpL
import Derived.Test.YtpomngkcfbnjoaaDoorCell
namespace Go.Proofs.YtpomngkcfbnjoaaDoor
open Go.ChangeShapes Go.WideShapes Go.ChangeAt Go.RowKit Go.Dk Go.Deep

theorem os_c3 : Tryd.prog.cellsOf 3 = 1 := by kernel_rfl
theorem os_c4 : Tryd.prog.cellsOf 4 = 1 := by kernel_rfl
theorem os_c5 : Tryd.prog.cellsOf 5 = 1 := by kernel_rfl
theorem os_c22 : Tryd.prog.cellsOf 22 = 32 := by kernel_rfl
theorem os_c23 : Tryd.prog.cellsOf 23 = 32 := by kernel_rfl
theorem os_c25 : Tryd.prog.cellsOf 25 = 33 := by kernel_rfl
theorem os_c26 : Tryd.prog.cellsOf 26 = 1 := by kernel_rfl
theorem os_c28 : Tryd.prog.cellsOf 28 = 67 := by kernel_rfl
set_option maxRecDepth 100000 in
theorem open_proof {H : Type} {enc : TypeId × Value → H} {w : World} {held : Bool} {v : Value} {d : DataW H} {p : List MemPlace} {r : Reach} {b0 : Nat} (hv : Value.okWide Tryd.prog w r b0 28 v) (h : DataW.Trod enc Tryd.prog w 0 (fun _ => true) held 28 v d p) :
    ∃ (q : Prf) (sA : Option Addr) (sC : Nat), v = .agg (q.cells (.slice sA q.ss.length sC)).toArray ∧ q.ch.length = 32 ∧ q.bs.length = 32 ∧ (∀ d ∈ q.ss, d.length = 32) ∧ (-9223372036854775808 ≤ q.ct ∧ q.ct ≤ 9223372036854775807) ∧ q.ss.length ≤ sC ∧ q.ss.length ≤ 9223372036854775807 ∧ Rc w [] sA (digV q.ss) := by
  obtain ⟨cs, rfl, hsz⟩ : ∃ cs, v = .agg cs ∧ cs.size = Tryd.prog.cellsOf 28 := by
    obtain ⟨cs, h1, h2, _⟩ : ∃ cs, v = .agg cs ∧ cs.size = Tryd.prog.cellsOf 28 ∧ Row.okWide Tryd.prog w r b0 28 cs := by simpa [Value.okWide, Tryd.underlying28] using hv
    exact ⟨cs, h1, h2⟩
  rw [os_c28] at hsz
  obtain ⟨fuel, hf⟩ := h
  obtain ⟨xs, n, _, hx, _, hxl, hel⟩ := DataW.trod_struct Tryd.underlying28 hf
  have hlen : cs.toList.length = 67 := by simpa using hsz
  have hc : (Value.agg cs).cells.toList = cs.toList := rfl
  rw [hc] at hel
  have hxl4 : xs.length = 4 := hxl
  have g (i : Nat) (hi : i < 4) : xs[i]? = some xs[i] := List.getElem?_eq_getElem (by omega)
  have f0 : DataW.trod enc Tryd.prog w 0 (fun _ => true) held n 4 ((cs.toList.drop 0).take (Tryd.prog.cellsOf 4)) = xs[0]? := hel 0 _ rfl
  rw [g 0 (by omega), os_c4] at f0
  have f1 : DataW.trod enc Tryd.prog w 0 (fun _ => true) held n 25 ((cs.toList.drop 1).take (Tryd.prog.cellsOf 25)) = xs[1]? := hel 1 _ rfl
  rw [g 1 (by omega), os_c25] at f1
  have f2 : DataW.trod enc Tryd.prog w 0 (fun _ => true) held n 22 ((cs.toList.drop 34).take (Tryd.prog.cellsOf 22)) = xs[2]? := hel 2 _ rfl
  rw [g 2 (by omega), os_c22] at f2
  have f3 : DataW.trod enc Tryd.prog w 0 (fun _ => true) held n 26 ((cs.toList.drop 66).take (Tryd.prog.cellsOf 26)) = xs[3]? := hel 3 _ rfl
  rw [g 3 (by omega), os_c26] at f3
  obtain ⟨b0, e0, _⟩ := DataW.trod_bool Tryd.underlying4 f0
  obtain ⟨ys, m, _, _, _, hyl, hey⟩ := DataW.trod_struct Tryd.underlying25 f1
  have hyl2 : ys.length = 2 := hyl
  have k (i : Nat) (hi : i < 2) : ys[i]? = some ys[i] := List.getElem?_eq_getElem (by omega)
  have k0 : DataW.trod enc Tryd.prog w 0 (fun _ => true) held m 3 ((((cs.toList.drop 1).take 33).drop 0).take (Tryd.prog.cellsOf 3)) = ys[0]? := hey 0 _ rfl
  rw [k 0 (by omega), os_c3] at k0
  have k1 : DataW.trod enc Tryd.prog w 0 (fun _ => true) held m 23 ((((cs.toList.drop 1).take 33).drop 1).take (Tryd.prog.cellsOf 23)) = ys[1]? := hey 1 _ rfl
  rw [k 1 (by omega), os_c23] at k1
  obtain ⟨ct, e1, l1, u1⟩ := cells_int Tryd.underlying3 k0
  obtain ⟨ch, e2, h2⟩ := cells_array Tryd.underlying23 Tryd.underlying5 os_c5 (by rw [List.length_take, List.length_drop, List.length_take, List.length_drop]; omega) k1
  obtain ⟨bs, e3, h3⟩ := cells_array Tryd.underlying22 Tryd.underlying5 os_c5 (by rw [List.length_take, List.length_drop]; omega) f2
  obtain ⟨sA, ss, sC, e4, l4, u4, h4, r4⟩ := cells_arrays Tryd.underlying26 Tryd.underlying23 Tryd.underlying5 os_c23 os_c5 (by decide) f3
  refine ⟨⟨b0, ct, ch, bs, ss⟩, sA, sC, ?_, h2, h3, h4, ⟨l1, u1⟩, l4, u4, r4.rc⟩
  have hall : cs.toList = Prf.cells ⟨b0, ct, ch, bs, ss⟩ (.slice sA ss.length sC) := by
    have s0 := cell_split cs.toList 0 1
    have s1 := cell_split cs.toList 1 33
    have s2 := cell_split cs.toList 34 32
    have s3 := cell_split cs.toList 66 1
    have t0 := cell_split ((cs.toList.drop 1).take 33) 0 1
    have t1 := cell_split ((cs.toList.drop 1).take 33) 1 32
    rw [e0] at s0
    rw [e3] at s2
    rw [e4] at s3
    rw [e1] at t0
    rw [e2] at t1
    have z1 : ((cs.toList.drop 1).take 33).drop (1 + 32) = [] := List.drop_of_length_le (by rw [List.length_take]; omega)
    have z2 : cs.toList.drop (66 + 1) = [] := List.drop_of_length_le (by omega)
    rw [z1] at t1
    rw [z2] at s3
    rw [List.drop_zero] at s0 t0
    rw [t1] at t0
    rw [t0] at s1
    rw [s0, s1, s2, s3]
    simp [Prf.cells]
  congr 1
  apply Array.ext'
  rw [hall]

/-- the first 300 digests alone -/
def Prf.short (q : Prf) : Prf := { q with ss := q.ss.take 300 }
theorem short_ok {q : Prf} (h1 : q.ch.length = 32) (h2 : q.bs.length = 32) (h3 : ∀ d ∈ q.ss, d.length = 32) : q.short.OK :=
  ⟨h1, h2, fun d hd => h3 d (List.mem_of_mem_take hd), by show (q.ss.take 300).length ≤ 300; rw [List.length_take]; omega⟩
theorem short_len (q : Prf) : q.short.ss.length = min q.ss.length 300 := by show (q.ss.take 300).length = _; rw [List.length_take, Nat.min_comm]
theorem short_rc {w : World} {A : Option Addr} {q : Prf} (h : Rc w [] A (digV q.ss)) : Rc w [] A (digV q.short.ss) := by
  have e : digV q.ss = digV (q.ss.take 300) ++ digV (q.ss.drop 300) := by
    have h1 := cel_append (C := dc) (l := q.ss.take 300) (m := q.ss.drop 300)
    rwa [List.take_append_drop] at h1
  have h1 := h.take (digV (q.ss.take 300)).length
  rw [e, List.take_left' rfl] at h1
  exact h1
end Go.Proofs.YtpomngkcfbnjoaaDoor
