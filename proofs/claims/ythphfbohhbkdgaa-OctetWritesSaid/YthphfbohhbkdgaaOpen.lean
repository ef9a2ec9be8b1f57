/- How arguments are opened: arrays of bytes by value. Plain lemmas over the model; no program. -/
import Derived.Test.YthphfbohhbkdgaaMem
import Derived.OpenShut
import Derived.ShutString
import Derived.ChangeOld
namespace Go.Dk
open Go Go.ChangeShapes Go.WideShapes Go.ChangeAt Go.RowKit
section
variable {H : Type} {enc : TypeId × Value → H} {P : Program} {w : World} {base : Nat} {spare : Nat → Bool} {held : Bool} {t e : TypeId} {v : Value} {d : DataW H} {p : List MemPlace} {r : Reach} {b0 : Nat}

def byteOf : Value → UInt8
  | .int _ n => UInt8.ofNat n.toNat
  | _ => 0
theorem byteOf_ok {n : Int} (h : (Lit.int .u8 n).wf = true) : Value.int .u8 ((byteOf (.int .u8 n)).toNat : Int) = .int .u8 n := by
  have hb : 0 ≤ n ∧ n ≤ 255 := by simpa [Lit.wf, IntKind.min, IntKind.max, IntKind.signed, IntKind.bits] using h
  simp only [byteOf, UInt8.toNat_ofNat']
  congr 1
  omega

theorem open_bytes_array {n : Nat} (ht : P.underlying t = some (.array n e)) (he : P.underlying e = some (.int .u8)) (hce : P.cellsOf e = 1) (hct : P.cellsOf t = n)
    (hv : Value.okWide P w r b0 t v) (h : DataW.Trod enc P w base spare held t v d p) : ∃ D : List UInt8, v = .agg (dc D).toArray ∧ D.length = n := by
  obtain ⟨cs, rfl, hsz⟩ : ∃ cs, v = .agg cs ∧ cs.size = P.cellsOf t := by
    obtain ⟨cs, h1, h2, _⟩ : ∃ cs, v = .agg cs ∧ cs.size = P.cellsOf t ∧ Row.okWide P w r b0 t cs := by simpa [Value.okWide, ht] using hv
    exact ⟨cs, h1, h2⟩
  rw [hct] at hsz
  obtain ⟨fuel, hf⟩ := h
  obtain ⟨xs, m, _, _, _, hl, hel⟩ := DataW.trod_array ht hf
  refine ⟨cs.toList.map byteOf, ?_, by simpa using hsz⟩
  congr 1
  apply Array.ext
  · simp [dc]
  · intro i h1 h2
    have hi : i < n := by omega
    have h3 := hel i hi
    rw [hce] at h3
    have hx : xs[i]? = some (xs[i]'(by omega)) := List.getElem?_eq_getElem (by omega)
    rw [hx] at h3
    obtain ⟨z, hz, _, hw⟩ := DataW.trod_int he h3
    have hcell : cs[i] = .int .u8 z := by
      have : ((Value.agg cs).cells.toList.drop (i * 1)).take 1 = [cs[i]] := by
        rw [Nat.mul_one]
        show (cs.toList.drop i).take 1 = _
        rw [List.drop_eq_getElem_cons (by simpa using h1)]
        simp
      rw [this] at hz
      simpa using hz
    simp [dc, hcell, byteOf_ok hw]
end
end Go.Dk
