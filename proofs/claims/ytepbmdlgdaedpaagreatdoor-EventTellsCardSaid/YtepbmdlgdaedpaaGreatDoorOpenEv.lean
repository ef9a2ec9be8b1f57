/- The table of the reserved words; how a value and an event are opened. -/
import Derived.Test.YtepbmdlgdaedpaaGreatDoorEv7
import Derived.Test.YtepbmdlgdaedpaaGreatDoorCell
import Derived.Test.YtepbmdlgdaedpaaGreatDoorOpenS
import Derived.Lib.LaidTab
namespace Go.Proofs.YtepbmdlgdaedpaaGreatDoor
open Go.ChangeShapes Go.WideShapes Go.ChangeAt Go.RowKit Go.Dk Go.Deep

theorem oe_c3 : Tryz.prog.cellsOf 3 = 1 := by kernel_rfl
theorem oe_c9 : Tryz.prog.cellsOf 9 = 1 := by kernel_rfl
theorem oe_c22 : Tryz.prog.cellsOf 22 = 1 := by kernel_rfl
theorem oe_c23 : Tryz.prog.cellsOf 23 = 1 := by kernel_rfl
theorem cells_of_strs {H : Type} {enc : TypeId × Value → H} {P : Program} {w : World} {base : Nat} {sp : Nat → Bool} {held : Bool} {fuel : Nat} {t e : TypeId} {n : Nat} {cs : List Value} {zs : List (List UInt8)} {p : List MemPlace}
    (ht : P.underlying t = some (.array n e)) (he : P.underlying e = some .string) (hce : P.cellsOf e = 1) (hct : P.cellsOf t = n)
    (h : DataW.trod enc P w base sp held fuel t cs = some (.agg (zs.map fun z => .lit (.string z)), p)) : cs = zs.map strV := by
  cases fuel with
  | zero => simp [DataW.trod] at h
  | succ fuel =>
    simp only [DataW.trod, ht, hce, hct, Nat.mul_one] at h
    split at h
    · rename_i hl
      obtain ⟨xs, hm, hx⟩ := Option.map_eq_some_iff.1 h
      have hxs : xs.map (·.1) = zs.map fun z => (DataW.lit (.string z) : DataW H) := by
        have := congrArg Prod.fst hx
        simpa using this
      have hxl : xs.length = n := by simpa using Go.Lib.mapM_length hm
      have hzl : zs.length = n := by
        have := congrArg List.length hxs
        simp at this
        omega
      apply List.ext_getElem?
      intro i
      by_cases hi : i < n
      · obtain ⟨b, hb, hf⟩ := Go.Lib.mapM_at hm i i (by simp [hi])
        obtain ⟨z, hc, rfl, _⟩ := DataW.trod_string he hf
        have h1 : cs[i]? = some (.string z) := by
          have := congrArg (·[0]?) hc
          simpa [List.getElem?_take, List.getElem?_drop] using this
        have h2 : (xs.map (·.1))[i]? = some (DataW.lit (.string z.data.toList) : DataW H) := by simp [hb]
        rw [hxs] at h2
        simp only [List.getElem?_map, Option.map_eq_some_iff, DataW.lit.injEq, Lit.string.injEq] at h2
        obtain ⟨z', hz', hz2⟩ := h2
        rw [h1, List.getElem?_map, hz', hz2]
        simp [strV]
      · rw [List.getElem?_eq_none (by omega), List.getElem?_eq_none (by simp; omega)]
    · cases h
theorem tabS_of {W : World} {name : String} {zs : List (List UInt8)} {rest : List (String × DataW Unit)} {t e : TypeId} {n : Nat} {P : Program}
    (hg : P.globalNamed name = some 1) (hty : (P.globals[1]?).map (·.type) = some t) (ht : P.underlying t = some (.array n e)) (he : P.underlying e = some .string) (hce : P.cellsOf e = 1) (hct : P.cellsOf t = n)
    (h : laidMet P ((name, .agg (zs.map fun z => .lit (.string z))) :: rest) W) : Rc W [] (some ⟨1, 0, none⟩) (zs.map strV) := by
  obtain ⟨ps, ⟨g', t', cs, fuel, p, q, hg', ht', hvar, hd, _, _⟩, _⟩ := h
  obtain rfl := Option.some.inj (hg.symm.trans hg')
  obtain rfl := Option.some.inj (hty.symm.trans ht')
  have hcs := cells_of_strs ht he hce hct hd
  obtain rfl : cs = (zs.map strV).toArray := by rw [← hcs]
  intro hne
  have hcell : ∀ i, i < (zs.map strV).length → W.cell? ⟨1, i, none⟩ = (zs.map strV)[i]? := fun i hi => by
    have := World.var?_cell hg hvar i
    simpa using this
  have hlt : 1 < W.heap.size := by
    have h0 := hcell 0 (List.length_pos_iff.2 hne)
    rw [List.getElem?_eq_getElem (List.length_pos_iff.2 hne)] at h0
    rcases Nat.lt_or_ge 1 W.heap.size with h1 | h1
    · exact h1
    · simp [World.cell?, Array.getElem?_eq_none h1] at h0
  refine ⟨1, 0, rfl, fun x hx => ⟨by have := hx.size; omega, fun i hi => ?_⟩⟩
  rw [← hcell i hi, Nat.zero_add]
  simp only [World.cell?, hx.old hlt]
theorem cells_str {H : Type} {enc : TypeId × Value → H} {w : World} {held : Bool} {cs : List Value} {x : DataW H × List MemPlace} {fuel : Nat} {t : TypeId} (ht : Tryz.prog.underlying t = some .string) (h : DataW.trod enc Tryz.prog w 0 (fun _ => true) held fuel t cs = some x) : ∃ s : List UInt8, cs = [strV s] := by
  obtain ⟨s, hc, _, _⟩ := DataW.trod_string ht h
  exact ⟨s.data.toList, by rw [hc]⟩
theorem flat_one (l : List (List UInt8)) : (l.map fun s => [strV s]).flatten = l.map strV := by
  induction l with
  | nil => rfl
  | cons a l ih => rw [List.map_cons, List.flatten_cons, ih]; rfl
theorem cells_strs {H : Type} {enc : TypeId × Value → H} {w : World} {held : Bool} {cs : List Value} {x : DataW H × List MemPlace} {fuel : Nat} (h : DataW.trod enc Tryz.prog w 0 (fun _ => true) held fuel 23 cs = some x) : ∃ (A : Option Addr) (l : List (List UInt8)) (c : Nat), cs = [.slice A l.length c] ∧ l.length ≤ 9223372036854775807 ∧ Rc w [] A (l.map strV) := by
  obtain ⟨A, Ws, c, h1, h2, h3, h4, h5⟩ := cells_slice Tryz.underlying23 oe_c9 (by decide) h
  obtain ⟨l, hl, _⟩ := choose_map (f := fun s => [strV s]) (Pr := fun _ => True) Ws (fun W hW => by
    obtain ⟨hl, m, y, hy⟩ := h4 W hW
    obtain ⟨s, hs⟩ := cells_str Tryz.underlying9 hy
    exact ⟨s, hs, trivial⟩)
  subst hl
  rw [List.length_map] at h1 h3
  rw [flat_one] at h5
  exact ⟨A, l, c, h1, h3, h5.rc⟩
set_option maxRecDepth 100000 in
theorem cells_val {H : Type} {enc : TypeId × Value → H} {w : World} {held : Bool} {cs : List Value} {x : DataW H × List MemPlace} {fuel : Nat} (hlen : cs.length = 4) (h : DataW.trod enc Tryz.prog w 0 (fun _ => true) held fuel 25 cs = some x) : ∃ a : VA, cs = a.cells ∧ a.Ok w [] := by
  obtain ⟨xs, n, _, _, _, xsl, xse⟩ := DataW.trod_struct Tryz.underlying25 h
  have xs2 : xs.length = 4 := xsl
  have g (i : Nat) (hi : i < 4) : xs[i]? = some xs[i] := List.getElem?_eq_getElem (by omega)
  have f0 : DataW.trod enc Tryz.prog w 0 (fun _ => true) held n 22 (((cs).drop 0).take (Tryz.prog.cellsOf 22)) = xs[0]? := xse 0 _ rfl
  rw [g 0 (by omega), oe_c22] at f0
  have f1 : DataW.trod enc Tryz.prog w 0 (fun _ => true) held n 3 (((cs).drop 1).take (Tryz.prog.cellsOf 3)) = xs[1]? := xse 1 _ rfl
  rw [g 1 (by omega), oe_c3] at f1
  have f2 : DataW.trod enc Tryz.prog w 0 (fun _ => true) held n 9 (((cs).drop 2).take (Tryz.prog.cellsOf 9)) = xs[2]? := xse 2 _ rfl
  rw [g 2 (by omega), oe_c9] at f2
  have f3 : DataW.trod enc Tryz.prog w 0 (fun _ => true) held n 23 (((cs).drop 3).take (Tryz.prog.cellsOf 23)) = xs[3]? := xse 3 _ rfl
  rw [g 3 (by omega), oe_c23] at f3
  obtain ⟨k, e0, k1, k2⟩ := cells_int Tryz.underlying22 f0
  obtain ⟨z, e1, z1, z2⟩ := cells_int Tryz.underlying3 f1
  obtain ⟨t, e2⟩ := cells_str Tryz.underlying9 f2
  obtain ⟨sA, s, sC, e3, hs, hr⟩ := cells_strs f3
  refine ⟨⟨⟨k, z, t, s⟩, sA, sC⟩, ?_, ⟨hr, hs, ⟨⟨k1, k2⟩, ⟨z1, z2⟩⟩⟩⟩
  have s0 := cell_split (cs) 0 1
  have s1 := cell_split (cs) 1 1
  have s2 := cell_split (cs) 2 1
  have s3 := cell_split (cs) 3 1
  rw [e0] at s0
  rw [e1] at s1
  rw [e2] at s2
  rw [e3] at s3
  have z3 : cs.drop (3 + 1) = [] := List.drop_of_length_le (by omega)
  rw [z3] at s3
  rw [List.drop_zero] at s0
  rw [s0, s1, s2, s3]
  simp [VA.cells, Val.cells]
end Go.Proofs.YtepbmdlgdaedpaaGreatDoor
