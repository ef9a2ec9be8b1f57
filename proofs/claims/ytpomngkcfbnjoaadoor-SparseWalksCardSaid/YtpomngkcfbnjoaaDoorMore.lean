/- Slice literals of slices, a string's bytes. Plain lemmas over the model; no program. -/
import Derived.Test.YtpomngkcfbnjoaaDoorTwo
import Derived.Lib.ConvBytes
import Derived.Laws.Cover3
namespace Go.Dk
open Go Go.RowKit
section
variable {P : Program} {Q : Exit → Act → World → Prop} {w w0 : World} {n : Nat} {F : List (Nat × Value)} {a : Act}
variable {o : Oper} {d : Nat} {K : Act → World → Prop} {L : List Row} {t e : TypeId} {x y z : Operand} {u1 u2 u3 : Value}
theorem run_eql_slice_nil_t (w : World) (t : TypeId) (A : Option Addr) (n1 c1 : Nat) (hu : P.underlying t = some (.slice e)) : (binOp .eql t (.slice A n1 c1) (.slice none 0 0)).run P w = .ok (.bool A.isNone) w := by
  have h := run_equal_slice_nil (P := P) w t e A n1 c1 hu
  simp [binOp, h, Result.andThen]
theorem ws_bs2 (hF : Fr n F a) (hd : o.dst = some d) (hlt : d < n) (ho : o.op = .buildSlice t 2 #[(0, x), (1, y)]) (hA : At w0 L w) (hx : ev F x = some u1) (hy : ev F y = some u2)
    (hr : ∀ w : World, (Instr.buildSlice t 2 #[(0, u1), (1, u2)]).run P w = .ok (.slice (some ⟨w.heap.size, 0, none⟩) 2 2) (w.alloc (.cells #[u1, u2] e)))
    (h : ∀ g w' a', w.heap.size ≤ g → Fr n ((d, .slice (some ⟨g, 0, none⟩) 2 2) :: F) a' → At w0 ((g, e, [u1, u2]) :: L) w' → K a' w') : o.wp P a w K Q :=
  wp_bs ho hA (by simpa [hF.ev hx, hF.ev hy] using hr w) (fun g w' hg hw => by rw [hd]; exact h g w' _ hg (hF.put hlt) hw)
theorem ws_bs3 (hF : Fr n F a) (hd : o.dst = some d) (hlt : d < n) (ho : o.op = .buildSlice t 3 #[(0, x), (1, y), (2, z)]) (hA : At w0 L w) (hx : ev F x = some u1) (hy : ev F y = some u2) (hz : ev F z = some u3)
    (hr : ∀ w : World, (Instr.buildSlice t 3 #[(0, u1), (1, u2), (2, u3)]).run P w = .ok (.slice (some ⟨w.heap.size, 0, none⟩) 3 3) (w.alloc (.cells #[u1, u2, u3] e)))
    (h : ∀ g w' a', w.heap.size ≤ g → Fr n ((d, .slice (some ⟨g, 0, none⟩) 3 3) :: F) a' → At w0 ((g, e, [u1, u2, u3]) :: L) w' → K a' w') : o.wp P a w K Q :=
  wp_bs ho hA (by simpa [hF.ev hx, hF.ev hy, hF.ev hz] using hr w) (fun g w' hg hw => by rw [hd]; exact h g w' _ hg (hF.put hlt) hw)
/-- a slice held against nil -/
theorem y_slNilT {t' : TypeId} {n1 c1 : Nat} (ho : o.op = .binOp .eql t x y t') (hu : P.underlying t = some (.slice e)) (hx : ev F x = some (.slice none n1 c1)) (hy : ev F y = some (.slice none 0 0)) : Yd P n F o w (.bool true) := fun a hF => by
  unfold execOp
  simp only [ho, hF.ev hx, hF.ev hy, Sem.run_bind]
  have h1 : (eqGuard .eql t x y (.slice none n1 c1) (.slice none 0 0)).run P w = .ok () w := rfl
  rw [h1]
  simp only [Result.andThen_ok]
  rw [run_eql_slice_nil_t w t none n1 c1 hu]
  rfl
end
end Go.Dk
