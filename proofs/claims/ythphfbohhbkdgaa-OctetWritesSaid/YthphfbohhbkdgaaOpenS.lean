/- How arguments are opened: slices of bytes, slices of such slices. Plain lemmas over the model; no program. -/
import Derived.Test.YthphfbohhbkdgaaOpen
import Derived.Test.YthphfbohhbkdgaaBytes
import Derived.ChangeSlices
import Derived.SizedLaws
import Derived.Deep.Slices
namespace Go.Dk
open Go Go.ChangeShapes Go.WideShapes Go.ChangeAt Go.RowKit Go.Deep
section
variable {H : Type} {enc : TypeId × Value → H} {P : Program} {w : World} {held : Bool} {t e : TypeId} {v : Value} {d : DataW H} {p : List MemPlace}
theorem addr_plain {a : Addr} {i : Nat} {u : Value} (h : w.cell? (a.add i) = some u) (hi : i = 0) : a = ⟨a.block, a.off, none⟩ := by
  subst hi
  obtain ⟨b, o, s⟩ := a
  have hs : s = none := by simpa [Addr.add] using World.cell?_spot h
  subst hs
  rfl
theorem block_lt_of_cell {ad : Addr} {u : Value} (h : w.cell? ad = some u) : ad.block < w.heap.size := by
  unfold World.cell? at h
  rcases Nat.lt_or_ge ad.block w.heap.size with h1 | h1
  · exact h1
  · rw [Array.getElem?_eq_none h1] at h; simp at h
/-- the cells of a slice of bytes -/
theorem open_byte_cells {cs : List Value} {x : DataW H × List MemPlace} {fuel : Nat} (ht : P.underlying t = some (.slice e)) (he : P.underlying e = some (.int .u8)) (hc : P.cellsOf e = 1)
    (h : DataW.trod enc P w 0 (fun _ => true) held fuel t cs = some x) :
    ∃ A c l, cs = [.slice A l.length c] ∧ l.length ≤ c ∧ Bts w A l ∧ ((A = none ∧ c = 0 ∧ x.1 = .nil) ∨ ∃ es sp, x.1 = .slice es sp ∧ es.length + sp.length = c ∧ es.length = l.length) := by
  rcases open_ints ht he hc h with ⟨rfl, rfl⟩ | ⟨a, len, cap, zs, rfl, _, hl, _, hz, rfl, hcell, hw⟩
  · exact ⟨none, 0, [], rfl, Nat.le_refl _, Bts.nil _ _, .inl ⟨rfl, rfl, rfl⟩⟩
  · simp only [if_true] at hz
    refine ⟨some a, cap, (zs.take len).map fun z => UInt8.ofNat z.toNat, ?_, ?_, ?_, .inr ⟨_, _, rfl, ?_, ?_⟩⟩
    · simp; omega
    · simp; omega
    · intro hne
      have hlen : 0 < len := by
        rcases Nat.eq_zero_or_pos len with h0 | h0
        · subst h0; simp at hne
        · exact h0
      have h0 := hcell 0 (by omega)
      have hp := addr_plain h0 rfl
      refine ⟨a.block, a.off, by rw [← hp], ?_, fun i hi => ?_⟩
      · have := block_lt_of_cell h0
        rw [hp] at this
        simpa [Addr.add] using this
      · have hil : i < len := by simp at hi; omega
        have h1 := hcell i (by omega)
        rw [hp, Addr.add_mid] at h1
        rw [h1]
        have hzl : i < zs.length := by omega
        have hg : zs.getD i 0 = zs[i] := by simp [List.getD, hzl]
        have hwf := hw zs[i] (List.getElem_mem hzl)
        have hb : 0 ≤ zs[i] ∧ zs[i] ≤ 255 := by simpa [Lit.wf, IntKind.min, IntKind.max, IntKind.signed, IntKind.bits] using hwf
        rw [hg]
        congr 2
        have hb2 : bAt ((zs.take len).map fun z => UInt8.ofNat z.toNat) i = UInt8.ofNat zs[i].toNat := by
          unfold bAt
          rw [List.getElem?_map, List.getElem?_take, if_pos hil, List.getElem?_eq_getElem hzl]
          rfl
        rw [hb2, UInt8.toNat_ofNat']
        omega
    · simp [lits]; omega
    · simp [lits]
theorem open_byte_slice {r : Reach} {b0 : Nat} (ht : P.underlying t = some (.slice e)) (he : P.underlying e = some (.int .u8)) (hc : P.cellsOf e = 1) (hv : Value.okWide P w r b0 t v)
    (h : DataW.Trod enc P w 0 (fun _ => true) held t v d p) :
    ∃ A c l, v = .slice A l.length c ∧ l.length ≤ c ∧ Bts w A l ∧ ((A = none ∧ c = 0 ∧ d = .nil) ∨ ∃ es sp, d = .slice es sp ∧ es.length + sp.length = c ∧ es.length = l.length) := by
  obtain ⟨fuel, hf⟩ := h
  obtain ⟨A, c, l, h1, h2, h3, h4⟩ := open_byte_cells ht he hc hf
  refine ⟨A, c, l, ?_, h2, h3, h4⟩
  cases v with
  | agg cs => simp [Value.okWide, ht, Cell.okWide, Cell.ok] at hv
  | tuple cs => simp [Value.okWide, ht, Cell.okWide, Cell.ok] at hv
  | slice _ _ _ => simpa [Value.cells] using h1
  | _ => simp [Value.cells] at h1
/-- a slice of slices of bytes -/
theorem open_byte_slices {q : TypeId} {r : Reach} {b0 : Nat} (ht : P.underlying t = some (.slice e)) (he : P.underlying e = some (.slice q)) (hq : P.underlying q = some (.int .u8)) (ce : P.cellsOf e = 1) (cq : P.cellsOf q = 1) (hv : Value.okWide P w r b0 t v)
    (h : DataW.Trod enc P w 0 (fun _ => true) held t v d p) :
    ∃ (pa : Option Addr) (ps : List (Option Addr × Nat × List UInt8)) (c : Nat), v = .slice pa ps.length c ∧ ps.length ≤ 9223372036854775807 ∧ (∀ A c l, (A, c, l) ∈ ps → l.length ≤ 9223372036854775807) ∧
      (ps ≠ [] → ∃ b o, pa = some ⟨b, o, none⟩ ∧ b < w.heap.size ∧ ∀ i A c l, ps[i]? = some (A, c, l) → w.cell? ⟨b, o + i, none⟩ = some (.slice A l.length c)) ∧
      ∀ A c l, (A, c, l) ∈ ps → l.length ≤ c ∧ Bts w A l := by
  have hslice : ∀ cs, v.cells.toList = [cs] → (∃ A n c, cs = .slice A n c) → v = cs := by
    intro cs h1 h2
    obtain ⟨A, n, c, rfl⟩ := h2
    cases v with
    | agg cs => simp [Value.okWide, ht, Cell.okWide, Cell.ok] at hv
    | tuple cs => simp [Value.okWide, ht, Cell.okWide, Cell.ok] at hv
    | slice _ _ _ => simpa [Value.cells] using h1
    | _ => simp [Value.cells] at h1
  obtain ⟨fuel, hf⟩ := h
  rcases open_slice1 ht ce hf with ⟨hcs, _⟩ | ⟨a, len, cap, m, n, V, D, Pl, hcs, _, hl, hm, hmm, _, hx⟩
  · exact ⟨none, [], 0, hslice _ hcs ⟨_, _, _, rfl⟩, by simp, (fun _ _ _ h => by cases h), (fun h => absurd rfl h), fun _ _ _ h => by cases h⟩
  · simp only [if_true] at hmm
    subst hmm
    have hmx : maxLen = 9223372036854775807 := rfl
    have each : ∀ i, i < m → ∃ y : Option Addr × Nat × List UInt8, V i = .slice y.1 y.2.2.length y.2.1 ∧ y.2.2.length ≤ y.2.1 ∧ Bts w y.1 y.2.2 ∧ y.2.2.length ≤ 9223372036854775807 := by
      intro i hi
      obtain ⟨A, c, l, h1, h2, h3, _⟩ := open_byte_cells he hq cq (hx i hi).2
      have hcap : l.length ≤ 9223372036854775807 := by
        rcases open_ints he hq cq (hx i hi).2 with ⟨h4, _⟩ | ⟨a', len', cap', zs, h4, _, h5, h6, _⟩
        · rw [h4] at h1; simp at h1; omega
        · rw [h4] at h1; simp at h1; omega
      exact ⟨(A, c, l), by simpa using h1, h2, h3, hcap⟩
    obtain ⟨y, hy⟩ := choose_lt each
    refine ⟨some a, (List.range len).map y, m, ?_, by simp; omega, ?_, ?_, ?_⟩
    · rw [List.length_map, List.length_range]
      exact hslice _ hcs ⟨_, _, _, rfl⟩
    · intro A c l hm
      obtain ⟨i, hi, he⟩ := List.mem_map.1 hm
      have := (hy i (by have := List.mem_range.1 hi; omega)).2.2.2
      rw [he] at this
      exact this
    · intro hne
      have hlen : 0 < len := by
        rcases Nat.eq_zero_or_pos len with h0 | h0
        · subst h0; simp at hne
        · exact h0
      have h0 := (hx 0 (by omega)).1
      have hp := addr_plain h0 rfl
      refine ⟨a.block, a.off, by rw [← hp], ?_, fun i A c l hi => ?_⟩
      · have := block_lt_of_cell h0
        rw [hp] at this
        simpa [Addr.add] using this
      · have hil : i < len := by have := (List.getElem?_eq_some_iff.1 hi).1; simpa using this
        have h1 := (hx i (by omega)).1
        rw [hp, Addr.add_mid] at h1
        rw [h1]
        have h2 := (hy i (by omega)).1
        have h3 : y i = (A, c, l) := by simpa [hil] using hi
        rw [h2, h3]
    · intro A c l hm
      obtain ⟨i, hi, he⟩ := List.mem_map.1 hm
      have := hy i (by have := List.mem_range.1 hi; omega)
      rw [he] at this
      exact ⟨this.2.1, this.2.2.1⟩
theorem open_int64 {r : Reach} {b0 : Nat} {k : IntKind} (ht : P.underlying t = some (.int k)) (hv : Value.okWide P w r b0 t v) (h : DataW.Trod enc P w 0 (fun _ => true) held t v d p) : ∃ n : Int, v = .int k n ∧ k.min ≤ n ∧ n ≤ k.max := by
  cases v <;> simp_all [Value.okWide, Cell.okWide, Cell.ok, IntKind.has]
theorem byte_slice_small {ts : List TypeId} {ds : List (DataW H)} (hz : (DataW.weightsEach P ts ds).all (· ≤ reachBytes) = true) {j : Nat} (htj : ts[j]? = some t) (hdj : ds[j]? = some d) (ht : P.underlying t = some (.slice e)) (hb : P.bytesOf e = 1)
    {A : Option Addr} {c n : Nat} (h : (A = none ∧ c = 0 ∧ d = .nil) ∨ ∃ es sp, d = .slice es sp ∧ es.length + sp.length = c ∧ es.length = n) : c < 140737488351300 := by
  rcases h with ⟨_, rfl, _⟩ | ⟨es, sp, rfl, hc, _⟩
  · decide
  · have h1 := sized_slice hz htj hdj ht
    rw [hb, Nat.mul_one, hc] at h1
    have : reachBytes < 140737488351300 := by decide
    omega
end
end Go.Dk
