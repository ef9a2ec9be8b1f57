/- How the script of the play is opened. -/
import Derived.Test.YtppmhlkonemebaaDoorPl
import Derived.Test.YtppmhlkonemebaaDoorCell
import Derived.Test.YtppmhlkonemebaaDoorOpenR
namespace Go.Dk
open Go Go.ChangeShapes Go.WideShapes Go.ChangeAt Go.RowKit Go.Deep
section
variable {H : Type} {enc : TypeId × Value → H} {P : Program} {w : World} {held : Bool} {t e : TypeId} {v : Value} {d : DataW H} {p : List MemPlace} {cs : List Value} {x : DataW H × List MemPlace} {fuel : Nat}
theorem cells_sliceD {sz : Nat} (ht : P.underlying t = some (.slice e)) (hsz : P.cellsOf e = sz) (hpos : 0 < sz) (h : DataW.trod enc P w 0 (fun _ => true) held fuel t cs = some x) :
    ∃ (A : Option Addr) (Ws : List (List Value)) (c : Nat), cs = [.slice A Ws.length c] ∧ Ws.length ≤ c ∧ Ws.length ≤ 9223372036854775807 ∧ (∀ W ∈ Ws, W.length = sz ∧ ∃ m y, DataW.trod enc P w 0 (fun _ => true) held m e W = some y ∧ ∃ es sp, x.1 = .slice es sp ∧ y.1 ∈ es) ∧ Cl w A Ws.flatten := by
  rcases DataW.trod_slice ht h with ⟨hcs, hx⟩ | ⟨a, len, cap, elems, rest, m, _, hcs, hx, _, hlc, hcm, hel, hget, _, _⟩
  · exact ⟨none, [], 0, hcs, Nat.le_refl _, by decide, (fun _ h => by cases h), fun h => absurd rfl h⟩
  · have hmx : maxLen = 9223372036854775807 := rfl
    rw [hsz] at hget
    have each : ∀ i, i < len → ∃ (y : List Value × (DataW H × List MemPlace)), w.cells? 0 (a.add (i * sz)) sz = some y.1 ∧ DataW.trod enc P w 0 (fun _ => true) held m e y.1 = some y.2 ∧ elems[i]? = some y.2 := by
      intro i hi
      have h1 := hget i hi
      have h2 : elems[i]? = some (elems[i]'(by omega)) := List.getElem?_eq_getElem (by omega)
      rw [h2] at h1
      obtain ⟨cs, h3, h4⟩ := Option.bind_eq_some_iff.1 h1
      exact ⟨(cs, elems[i]'(by omega)), h3, h4, h2⟩
    obtain ⟨y, hy⟩ := choose_lt each
    have hws : ∀ W ∈ (List.range len).map (fun i => (y i).1), W.length = sz ∧ ∃ m y, DataW.trod enc P w 0 (fun _ => true) held m e W = some y ∧ ∃ es sp, x.1 = .slice es sp ∧ y.1 ∈ es := by
      intro W hW
      obtain ⟨i, hi, rfl⟩ := List.mem_map.1 hW
      have hi := List.mem_range.1 hi
      obtain ⟨_, hl1, _⟩ := World.cells?_some (hy i hi).1
      exact ⟨hl1, m, _, (hy i hi).2.1, _, _, (Prod.mk.inj hx).1, List.mem_map.2 ⟨_, List.mem_of_getElem? (hy i hi).2.2, rfl⟩⟩
    refine ⟨some a, (List.range len).map (fun i => (y i).1), cap, by simp [hcs], by simp; omega, by simp; omega, hws, fun hne => ?_⟩
    have hn : 0 < len := by
      rcases Nat.eq_zero_or_pos len with h0 | h0
      · subst h0; simp at hne
      · exact h0
    obtain ⟨_, hl0, h0⟩ := World.cells?_some (hy 0 hn).1
    have h00 := h0 0 hpos
    rw [List.getElem?_eq_getElem (by omega)] at h00
    have e0 : a.add (0 * sz) = a := by rw [Nat.zero_mul]; simp [Addr.add]
    rw [e0] at h00
    have hp := addr_plain h00 rfl
    refine ⟨a.block, a.off, by rw [← hp], ?_, fun k hk => ?_⟩
    · have := block_lt_of_cell h00
      simpa [Addr.add] using this
    · rw [flat_len (fun W hW => (hws W hW).1)] at hk
      simp only [List.length_map, List.length_range] at hk
      have hkd : k / sz < len := (Nat.div_lt_iff_lt_mul hpos).2 hk
      have hkm := Nat.mod_lt k hpos
      have hke := Nat.div_add_mod k sz
      rw [Nat.mul_comm] at hke
      obtain ⟨hat, hle⟩ := flat_at (z := sz) (Ws := (List.range len).map (fun i => (y i).1)) (V := (y (k / sz)).1) (i := k / sz) (fun W hW => (hws W hW).1) (by rw [List.getElem?_map, List.getElem?_range hkd]; rfl)
      obtain ⟨_, _, h1⟩ := World.cells?_some (hy (k / sz) hkd).1
      have h2 := h1 (k % sz) hkm
      rw [hp, Addr.add_mid, Addr.add_mid, Nat.add_assoc, hke] at h2
      rw [h2, ← hat, List.getElem?_take, if_pos hkm, List.getElem?_drop, hke]
end
end Go.Dk
namespace Go.Proofs.YtppmhlkonemebaaDoor
open Go.ChangeShapes Go.WideShapes Go.ChangeAt Go.RowKit Go.Dk Go.Deep
theorem os_c3 : Tryd.prog.cellsOf 3 = 1 := by kernel_rfl
theorem os_c5 : Tryd.prog.cellsOf 5 = 1 := by kernel_rfl
theorem os_c24 : Tryd.prog.cellsOf 24 = 1 := by kernel_rfl
theorem os_c26 : Tryd.prog.cellsOf 26 = 3 := by kernel_rfl
theorem os_b5 : Tryd.prog.bytesOf 5 = 1 := by kernel_rfl
set_option maxRecDepth 100000 in
theorem cells_st {H : Type} {enc : TypeId × Value → H} {w : World} {held : Bool} {cs : List Value} {x : DataW H × List MemPlace} {fuel : Nat} (hlen : cs.length = 3) (h : DataW.trod enc Tryd.prog w 0 (fun _ => true) held fuel 26 cs = some x) (hz : ∀ k ∈ DataW.weights Tryd.prog 26 x.1, k ≤ reachBytes) :
    ∃ o : StX, cs = stC o ∧ Rd w [] o.pA o.p ∧ o.p.length ≤ o.pC ∧ o.p.length ≤ 9223372036854775806 := by
  obtain ⟨xs, n, _, hx, _, hxl, hel⟩ := DataW.trod_struct Tryd.underlying26 h
  have hxl3 : xs.length = 3 := hxl
  have g (i : Nat) (hi : i < 3) : xs[i]? = some xs[i] := List.getElem?_eq_getElem (by omega)
  have f0 : DataW.trod enc Tryd.prog w 0 (fun _ => true) held n 3 ((cs.drop 0).take (Tryd.prog.cellsOf 3)) = xs[0]? := hel 0 _ rfl
  have f1 : DataW.trod enc Tryd.prog w 0 (fun _ => true) held n 3 ((cs.drop 1).take (Tryd.prog.cellsOf 3)) = xs[1]? := hel 1 _ rfl
  have f2 : DataW.trod enc Tryd.prog w 0 (fun _ => true) held n 24 ((cs.drop 2).take (Tryd.prog.cellsOf 24)) = xs[2]? := hel 2 _ rfl
  rw [g 0 (by omega), os_c3] at f0
  rw [g 1 (by omega), os_c3] at f1
  rw [g 2 (by omega), os_c24] at f2
  obtain ⟨z0, e0, _, _⟩ := DataW.trod_int Tryd.underlying3 f0
  obtain ⟨z1, e1, _, _⟩ := DataW.trod_int Tryd.underlying3 f1
  obtain ⟨PA, c, l, e2, hlc, hB, hd⟩ := open_byte_cells Tryd.underlying24 Tryd.underlying5 os_c5 f2
  have hds : c ≤ reachBytes := by
    rcases hd with ⟨_, rfl, _⟩ | ⟨es, sp, he, hc, _⟩
    · exact Nat.zero_le _
    · have hd' : x.1 = .agg (xs.map (·.1)) := by rw [hx]
      have hm : (es.length + sp.length) * Tryd.prog.bytesOf 5 ∈ DataW.weights Tryd.prog 26 x.1 := by
        rw [hd', DataW.weights, Tryd.underlying26]
        refine DataW.weights_mem_each (j := 2) (t := 24) (d := xs[2].1) rfl (by rw [List.getElem?_map, g 2 (by omega)]; rfl) _ ?_
        rw [he, DataW.weights, Tryd.underlying24]
        exact List.mem_cons_self ..
      have h1 := hz _ hm
      rwa [os_b5, Nat.mul_one, hc] at h1
  have hrb : reachBytes < 140737488351300 := by decide
  refine ⟨⟨z0, z1, l, PA, c⟩, ?_, Rd.old hB, hlc, by show l.length ≤ _; omega⟩
  have s0 := cell_split cs 0 1
  have s1 := cell_split cs 1 1
  have s2 := cell_split cs 2 1
  rw [e0] at s0
  rw [e1] at s1
  rw [e2] at s2
  rw [List.drop_zero] at s0
  have sE : cs.drop (2 + 1) = [] := List.drop_of_length_le (by omega)
  rw [sE] at s2
  rw [s0, s1, s2]
  rfl
set_option maxRecDepth 100000 in
theorem open_steps {H : Type} {enc : TypeId × Value → H} {w : World} {held : Bool} {v : Value} {d : DataW H} {p : List MemPlace} {r : Reach} {b0 : Nat} {ts : List TypeId} {ds : List (DataW H)} {j : Nat} (hv : Value.okWide Tryd.prog w r b0 22 v) (h : DataW.Trod enc Tryd.prog w 0 (fun _ => true) held 22 v d p)
    (hz : (DataW.weightsEach Tryd.prog ts ds).all (· ≤ reachBytes) = true) (htj : ts[j]? = some 22) (hdj : ds[j]? = some d) :
    ∃ (sA : Option Addr) (os : List StX) (sC : Nat), v = .slice sA os.length sC ∧ (∀ o ∈ os, Rd w [] o.pA o.p ∧ o.p.length ≤ o.pC ∧ o.p.length ≤ 9223372036854775806) ∧ Rc w [] sA (os.map stC).flatten ∧ os.length ≤ 9223372036854775807 := by
  obtain ⟨fuel, hf⟩ := h
  obtain ⟨A, Ws, c, h1, _, h3, h4, h5⟩ := cells_sliceD Tryd.underlying22 os_c26 (by decide) hf
  obtain ⟨os, hl, hs⟩ := choose_map (f := stC) (Pr := fun o => Rd w [] o.pA o.p ∧ o.p.length ≤ o.pC ∧ o.p.length ≤ 9223372036854775806) Ws (fun W hW => by
    obtain ⟨hl, m, y, hy, es, sp, hd, hye⟩ := h4 W hW
    refine cells_st hl hy (fun k hk => ?_)
    have hm := weight_elem (sp := sp) Tryd.underlying22 hye hk
    have hd2 : d = .slice es sp := hd
    rw [← hd2] at hm
    simpa using List.all_eq_true.1 hz _ (DataW.weights_mem_each htj hdj _ hm))
  subst hl
  rw [List.length_map] at h1 h3
  exact ⟨A, os, c, slice_of_cells Tryd.underlying22 hv h1, hs, h5.rc, h3⟩
end Go.Proofs.YtppmhlkonemebaaDoor
