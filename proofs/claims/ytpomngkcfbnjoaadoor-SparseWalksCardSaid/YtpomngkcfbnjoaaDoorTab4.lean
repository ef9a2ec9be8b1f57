/- texts, sum, unlike of the law DigestApart. -/
import Derived.Test.YtpomngkcfbnjoaaDoorTab3
namespace Go.Proofs.YtpomngkcfbnjoaaDoor
open Go.RowKit Go.Dk
set_option linter.unusedVariables false

section
variable {w d c h : Int} {X Y : List UInt8} {p q : Value}
end
theorem list32 {D : List UInt8} (h : D.length = 32) : (List.range 32).map (bAt D) = D := by
  apply List.ext_getElem?
  intro i
  rw [List.getElem?_map]
  by_cases hi : i < 32
  · rw [List.getElem?_range hi, List.getElem?_eq_getElem (by omega)]
    simp [bAt, h, hi]
  · rw [List.getElem?_eq_none (by simp; omega), List.getElem?_eq_none (by omega)]; rfl
theorem Own.drawn {w0 : World} {X : List Row} {v : Value} {n : Nat} {W : List Value} (h : Own w0 5 1 X v n W) : Own w0 5 1 X v n W := h
end Go.Proofs.YtpomngkcfbnjoaaDoor
