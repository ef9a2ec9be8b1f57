/- How an argument of the law's type Parts is opened. -/
import Derived.Test.YtppmhlkonemebaaDoorTab4
import Derived.Test.YtppmhlkonemebaaDoorStep
namespace Go.Proofs.YtppmhlkonemebaaDoor
open Go.ChangeShapes Go.WideShapes Go.ChangeAt Go.RowKit Go.Dk

theorem op_cells5 : Tryd.prog.cellsOf 5 = 1 := by kernel_rfl
theorem op_cells3 : Tryd.prog.cellsOf 3 = 1 := by kernel_rfl
theorem op_cells24 : Tryd.prog.cellsOf 24 = 1 := by kernel_rfl
theorem op_cells29 : Tryd.prog.cellsOf 29 = 1 := by kernel_rfl
theorem op_cells36 : Tryd.prog.cellsOf 36 = 32 := by kernel_rfl
theorem op_cells64 : Tryd.prog.cellsOf 64 = 70 := by kernel_rfl
theorem op_bytes5 : Tryd.prog.bytesOf 5 = 1 := by kernel_rfl
section
variable {H : Type} {enc : TypeId × Value → H} {w : World} {held : Bool}
theorem op_array {fuel : Nat} {cs : List Value} {x : DataW H × List MemPlace} (hcs : cs.length = 32) (h : DataW.trod enc Tryd.prog w 0 (fun _ => true) held fuel 36 cs = some x) : ∃ D : List UInt8, cs = dc D ∧ D.length = 32 := by
  obtain ⟨xs, m, _, _, _, hl, hel⟩ := DataW.trod_array Tryd.underlying36 h
  refine ⟨cs.map Go.Dk.byteOf, ?_, by simpa using hcs⟩
  apply List.ext_getElem
  · simp [dc]
  · intro i h1 h2
    have hi : i < 32 := by omega
    have h3 := hel i hi
    rw [op_cells5, Nat.mul_one, List.getElem?_eq_getElem (by omega)] at h3
    obtain ⟨z, hz, _, hw⟩ := DataW.trod_int Tryd.underlying5 h3
    have hcell : cs[i] = .int .u8 z := by
      have h4 : (cs.drop i).take 1 = [cs[i]'(by omega)] := by rw [List.drop_eq_getElem_cons (by omega)]; rfl
      rw [h4] at hz
      exact (List.cons.inj hz).1
    simp [dc, hcell, Go.Dk.byteOf_ok hw]
theorem op_split (l : List Value) (k m : Nat) : l.drop k = (l.drop k).take m ++ l.drop (k + m) := by
  rw [← List.drop_drop]
  exact (List.take_append_drop m _).symm
end
end Go.Proofs.YtppmhlkonemebaaDoor
