/- Slices of bytes that are made: make, append onto nil. Plain lemmas over the model; no program. -/
import Derived.Test.YtppmhlkonemebaaDoorBytes
import Derived.Laws.MakeOwn
import Derived.Deep.AppendSrc
import Derived.Laws.IdiomStrings
namespace Go.Dk
open Go Go.RowKit
/-- cells of one byte -/
def byteInfo (P : Program) (e : TypeId) : Prop := (P.info? e).map (fun i => (i.zero, i.size, i.bytes)) = some (some (.int .u8 0), 1, 1)
theorem byteInfo_spec {P : Program} {e : TypeId} (h : byteInfo P e) : ∃ i, P.info? e = some i ∧ i.zero = some (.int .u8 0) ∧ i.size = 1 ∧ i.bytes = 1 := by
  unfold byteInfo at h
  cases hi : P.info? e with
  | none => simp [hi] at h
  | some i =>
    rw [hi] at h
    simp only [Option.map_some, Option.some.injEq, Prod.mk.injEq] at h
    exact ⟨i, rfl, h.1, h.2.1, h.2.2⟩
theorem Bts.fresh {w0 w : World} {L : List Row} {A : Option Addr} {l : List UInt8} (h : Bts w0 A l) (hA : At w0 L w) (hn : ∀ r ∈ L, w0.heap.size ≤ r.1) : Bts w A l := fun hne => by
  obtain ⟨b, o, rfl, hb, hc⟩ := h hne
  have hs := hA.size
  refine ⟨b, o, rfl, by omega, fun i hi => (hA.old hb (fun hm => ?_) _ _).trans (hc i hi)⟩
  obtain ⟨r, hr, rfl⟩ := List.mem_map.1 hm
  have := hn r hr
  omega
theorem fill_put {l : List UInt8} {j : Nat} (h : j < l.length) (n : Nat) : (dc (l.take j ++ List.replicate (n + 1) 0)).set j (.int .u8 (bAt l j).toNat) = dc (l.take (j + 1) ++ List.replicate n 0) := by
  rw [dc_append, List.set_append, if_neg (by rw [dc_length, List.length_take]; omega), dc_length, List.length_take, show j - min j l.length = 0 by omega, dc_append, List.take_add_one, bAt_lt h]
  simp [dc, List.replicate_succ]
section
variable {P : Program} {ops : Array Oper} {Q : Exit → Act → World → Prop} {a : Act} {w0 w : World} {L : List Row} {rest : List Oper} {o : Oper}
/-- a slice literal -/
theorem wp_bs {K : Act → World → Prop} {t : TypeId} {n : Nat} {ps : Array (Nat × Operand)} (ho : o.op = .buildSlice t n ps) (hA : At w0 L w) {e : TypeId} {cells : Array Value}
    (hr : (Instr.buildSlice t n (ps.map fun (i, x) => (i, a.eval x))).run P w = .ok (.slice (some ⟨w.heap.size, 0, none⟩) n n) (w.alloc (.cells cells e)))
    (h : ∀ g w', w.heap.size ≤ g → At w0 ((g, e, cells.toList) :: L) w' → K (a.put o.dst (.slice (some ⟨g, 0, none⟩) n n)) w') : o.wp P a w K Q := by
  have h1 := h w.heap.size (w.alloc (.cells cells e)) (Nat.le_refl _) (hA.alloc _ _)
  unfold Oper.wp execOp
  simp only [ho, Sem.run_bind, hr, Result.andThen_ok, Sem.run_pure]
  exact h1
end
end Go.Dk
