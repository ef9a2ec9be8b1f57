/- Slice literals of slices, a string's bytes. Plain lemmas over the model; no program. -/
import Derived.Test.YtepbmdlgdaedpaaGreatDoorTwo
import Derived.Lib.ConvBytes
import Derived.Laws.Cover3
namespace Go.Dk
open Go Go.RowKit
section
variable {P : Program} {Q : Exit → Act → World → Prop} {w w0 : World} {n : Nat} {F : List (Nat × Value)} {a : Act}
variable {o : Oper} {d : Nat} {K : Act → World → Prop} {L : List Row} {t e : TypeId} {x y z : Operand} {u1 u2 u3 : Value}
theorem ws_bs1 (hF : Fr n F a) (hd : o.dst = some d) (hlt : d < n) (ho : o.op = .buildSlice t 1 #[(0, x)]) (hA : At w0 L w) (hx : ev F x = some u1)
    (hr : ∀ w : World, (Instr.buildSlice t 1 #[(0, u1)]).run P w = .ok (.slice (some ⟨w.heap.size, 0, none⟩) 1 1) (w.alloc (.cells #[u1] e)))
    (h : ∀ g w' a', w.heap.size ≤ g → Fr n ((d, .slice (some ⟨g, 0, none⟩) 1 1) :: F) a' → At w0 ((g, e, [u1]) :: L) w' → K a' w') : o.wp P a w K Q :=
  wp_bs ho hA (by simpa [hF.ev hx] using hr w) (fun g w' hg hw => by rw [hd]; exact h g w' _ hg (hF.put hlt) hw)
end
end Go.Dk
