/- Slice literals of slices, a string's bytes. Plain lemmas over the model; no program. -/
import Derived.Test.YtppmhlkonemebaaDoorTwo
import Derived.Lib.ConvBytes
import Derived.Laws.Cover3
namespace Go.Dk
open Go Go.RowKit
section
variable {P : Program} {Q : Exit → Act → World → Prop} {w w0 : World} {n : Nat} {F : List (Nat × Value)} {a : Act}
variable {o : Oper} {d : Nat} {K : Act → World → Prop} {L : List Row} {t e : TypeId} {x y z : Operand} {u1 u2 u3 : Value}
theorem ws_bs1 (hF : Fr n F a) (hd : o.dst = some d) (hlt : d < n) (ho : o.op = .buildSlice t 1 #[(0, x)]) (hA : At w0 L w) (hx : ev F x = some u1)
    (hr : ∀ w : World, (Instr.buildSlice t 1 #[(0, u1)]).run P w = .ok (.slice (some ⟨w.heap.size, 0, none⟩) 1 1) (w.alloc (.cells #[u1] e)))
    (h : ∀ g w' a', w.heap.size ≤ g → Fr n ((d, .slice (some ⟨g, 0, none⟩) 1 1) :: F) a' → At w0 ((g, e, [u1]) :: L) w' → K a' w') : o.wp P a w K Q :=
  wp_bs ho hA (by simpa [hF.ev hx] using hr w) (fun g w' hg hw => by rw [hd]; exact h g w' _ hg (hF.put hlt) hw)
theorem ws_bs2 (hF : Fr n F a) (hd : o.dst = some d) (hlt : d < n) (ho : o.op = .buildSlice t 2 #[(0, x), (1, y)]) (hA : At w0 L w) (hx : ev F x = some u1) (hy : ev F y = some u2)
    (hr : ∀ w : World, (Instr.buildSlice t 2 #[(0, u1), (1, u2)]).run P w = .ok (.slice (some ⟨w.heap.size, 0, none⟩) 2 2) (w.alloc (.cells #[u1, u2] e)))
    (h : ∀ g w' a', w.heap.size ≤ g → Fr n ((d, .slice (some ⟨g, 0, none⟩) 2 2) :: F) a' → At w0 ((g, e, [u1, u2]) :: L) w' → K a' w') : o.wp P a w K Q :=
  wp_bs ho hA (by simpa [hF.ev hx, hF.ev hy] using hr w) (fun g w' hg hw => by rw [hd]; exact h g w' _ hg (hF.put hlt) hw)
theorem ws_bs3 (hF : Fr n F a) (hd : o.dst = some d) (hlt : d < n) (ho : o.op = .buildSlice t 3 #[(0, x), (1, y), (2, z)]) (hA : At w0 L w) (hx : ev F x = some u1) (hy : ev F y = some u2) (hz : ev F z = some u3)
    (hr : ∀ w : World, (Instr.buildSlice t 3 #[(0, u1), (1, u2), (2, u3)]).run P w = .ok (.slice (some ⟨w.heap.size, 0, none⟩) 3 3) (w.alloc (.cells #[u1, u2, u3] e)))
    (h : ∀ g w' a', w.heap.size ≤ g → Fr n ((d, .slice (some ⟨g, 0, none⟩) 3 3) :: F) a' → At w0 ((g, e, [u1, u2, u3]) :: L) w' → K a' w') : o.wp P a w K Q :=
  wp_bs ho hA (by simpa [hF.ev hx, hF.ev hy, hF.ev hz] using hr w) (fun g w' hg hw => by rw [hd]; exact h g w' _ hg (hF.put hlt) hw)
/-- a string's bytes in new memory (that is no row to be written) -/
theorem ws_strBytes {t' : TypeId} {u : TypeDesc} {s : ByteArray} (hF : Fr n F a) (hd : o.dst = some d) (hlt : d < n) (ho : o.op = .convert t t' x) (hA : At w0 L w) (hs : P.underlying t = some u) (hu : P.underlying t' = some (.slice e)) (he : P.underlying e = some (.int .u8)) (hx : ev F x = some (.string s))
    (h : ∀ g c w' a', w.heap.size ≤ g → s.data.toList.length ≤ c → Fr n ((d, .slice (some ⟨g, 0, none⟩) s.data.toList.length c) :: F) a' → At w0 L w' → Bts w' (some ⟨g, 0, none⟩) s.data.toList → g < w'.heap.size → K a' w') : o.wp P a w K Q := by
  have hr := Lib.run_convert_string_bytes (P := P) w t t' e s hs hu he
  have hsz : s.data.toList.length = s.size := Array.length_toList
  have hlt2 : w.heap.size < (Lib.bytesWorld w e s).heap.size := by rw [Lib.bytesWorld_size]; omega
  have hA' : At w0 L (Lib.bytesWorld w e s) := by
    have hsz0 := hA.size
    refine ⟨hA.os, hA.tape, hA.output, by omega, fun r hr => ?_, hA.dist, fun k hk hn => ?_⟩
    · rw [Lib.bytesWorld_at_old w e s r.1 (hA.mem_lt hr)]; exact hA.rows r hr
    · rw [Lib.bytesWorld_at_old w e s k (by omega)]; exact hA.frame k hk hn
  have h1 := h w.heap.size (grownCap w s.size 0 e) _ _ (Nat.le_refl _) (by rw [hsz]; exact grownCap_ge _ _ _ _) (hF.put hlt) hA' (fun _ => ⟨w.heap.size, 0, rfl, hlt2, fun i hi => by
    rw [Nat.zero_add, Lib.bytesWorld_cell w e s i (by omega)]
    simp [bAt, List.getD]⟩) hlt2
  unfold Oper.wp execOp
  simp only [ho, hF.ev hx, Sem.run_bind, hr, Result.andThen_ok, Sem.run_pure, Oper.upon_value, hd]
  rw [hsz] at h1
  exact h1
theorem byteCells_dc (s : ByteArray) : byteCells s = dc s.data.toList := rfl
end
end Go.Dk
