/- How arguments are opened: slices of bytes, slices of such slices. Plain lemmas over the model; no program. -/
import Derived.Test.YtppmhlkonemebaaDoorOpen
import Derived.Test.YtppmhlkonemebaaDoorBytes
import Derived.ChangeSlices
import Derived.SizedLaws
import Derived.Deep.Slices
namespace Go.Dk
open Go Go.ChangeShapes Go.WideShapes Go.ChangeAt Go.RowKit Go.Deep
section
variable {H : Type} {enc : TypeId × Value → H} {P : Program} {w : World} {held : Bool} {t e : TypeId} {v : Value} {d : DataW H} {p : List MemPlace}
theorem addr_plain {a : Addr} {i : Nat} {u : Value} (h : w.cell? (a.add i) = some u) (hi : i = 0) : a = ⟨a.block, a.off, none⟩ := by
  subst hi
  obtain ⟨b, o, s⟩ := a
  have hs : s = none := by simpa [Addr.add] using World.cell?_spot h
  subst hs
  rfl
theorem block_lt_of_cell {ad : Addr} {u : Value} (h : w.cell? ad = some u) : ad.block < w.heap.size := by
  unfold World.cell? at h
  rcases Nat.lt_or_ge ad.block w.heap.size with h1 | h1
  · exact h1
  · rw [Array.getElem?_eq_none h1] at h; simp at h
/-- the cells of a slice of bytes -/
theorem open_byte_cells {cs : List Value} {x : DataW H × List MemPlace} {fuel : Nat} (ht : P.underlying t = some (.slice e)) (he : P.underlying e = some (.int .u8)) (hc : P.cellsOf e = 1)
    (h : DataW.trod enc P w 0 (fun _ => true) held fuel t cs = some x) :
    ∃ A c l, cs = [.slice A l.length c] ∧ l.length ≤ c ∧ Bts w A l ∧ ((A = none ∧ c = 0 ∧ x.1 = .nil) ∨ ∃ es sp, x.1 = .slice es sp ∧ es.length + sp.length = c ∧ es.length = l.length) := by
  rcases open_ints ht he hc h with ⟨rfl, rfl⟩ | ⟨a, len, cap, zs, rfl, _, hl, _, hz, rfl, hcell, hw⟩
  · exact ⟨none, 0, [], rfl, Nat.le_refl _, Bts.nil _ _, .inl ⟨rfl, rfl, rfl⟩⟩
  · simp only [if_true] at hz
    refine ⟨some a, cap, (zs.take len).map fun z => UInt8.ofNat z.toNat, ?_, ?_, ?_, .inr ⟨_, _, rfl, ?_, ?_⟩⟩
    · simp; omega
    · simp; omega
    · intro hne
      have hlen : 0 < len := by
        rcases Nat.eq_zero_or_pos len with h0 | h0
        · subst h0; simp at hne
        · exact h0
      have h0 := hcell 0 (by omega)
      have hp := addr_plain h0 rfl
      refine ⟨a.block, a.off, by rw [← hp], ?_, fun i hi => ?_⟩
      · have := block_lt_of_cell h0
        rw [hp] at this
        simpa [Addr.add] using this
      · have hil : i < len := by simp at hi; omega
        have h1 := hcell i (by omega)
        rw [hp, Addr.add_mid] at h1
        rw [h1]
        have hzl : i < zs.length := by omega
        have hg : zs.getD i 0 = zs[i] := by simp [List.getD, hzl]
        have hwf := hw zs[i] (List.getElem_mem hzl)
        have hb : 0 ≤ zs[i] ∧ zs[i] ≤ 255 := by simpa [Lit.wf, IntKind.min, IntKind.max, IntKind.signed, IntKind.bits] using hwf
        rw [hg]
        congr 2
        have hb2 : bAt ((zs.take len).map fun z => UInt8.ofNat z.toNat) i = UInt8.ofNat zs[i].toNat := by
          unfold bAt
          rw [List.getElem?_map, List.getElem?_take, if_pos hil, List.getElem?_eq_getElem hzl]
          rfl
        rw [hb2, UInt8.toNat_ofNat']
        omega
    · simp [lits]; omega
    · simp [lits]
end
end Go.Dk
