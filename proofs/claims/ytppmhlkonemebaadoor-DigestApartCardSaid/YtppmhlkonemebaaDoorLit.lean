/- Literals of bytes: built, and marked. -/
import Derived.Test.YtppmhlkonemebaaDoorTree
import Derived.Test.YtppmhlkonemebaaDoorHex
import Derived.Test.YtppmhlkonemebaaDoorMac
import Derived.Great.BuildSlice
import Derived.Lib.SlBytesConst
namespace Go.Proofs.YtppmhlkonemebaaDoor
open Go.RowKit Go.Dk
section
variable {P : Program} {ops : Array Oper} {Q : Exit → Act → World → Prop} {a : Act} {w0 w : World} {L : List Row} {rest : List Oper} {o : Oper}
theorem wpList_want (hw : Region.wanted o (yielded ops a.tmps) = true) (h : ∀ K : Act → World → Prop, (∀ a w, wpList P ops Q rest a w → K a w) → o.wp P a w K Q) : wpList P ops Q (o :: rest) a w :=
  wpList_step fun K hK => by rw [if_pos hw]; exact h K hK
theorem wp_bytes {K : Act → World → Prop} {t e : TypeId} {n : Nat} {ps : Array (Nat × Operand)} (ho : o.op = .buildSlice t n ps) (hu : P.underlying t = some (.slice e)) (hb : byteInfo P e) (l : List UInt8) (hlen : n = l.length) (hpos : 0 < n) (hsmall : n ≤ 2 ^ 24)
    (hparts : ps.toList = ((l.map fun b => (b.toNat : Int)).zipIdx 0).map fun x => (x.2, Operand.const (Value.int .u8 x.1)))
    (h : K (a.put o.dst (.slice (some ⟨w.heap.size, 0, none⟩) n n)) (w.alloc (.cells (dc l).toArray e))) : o.wp P a w K Q := by
  obtain ⟨i, hi, hz, hs, hbb⟩ := byteInfo_spec hb
  have h2 : (l.map fun b => (b.toNat : Int)).map (Value.int .u8) = dc l := by simp [dc]
  refine wp_buildSlice t e n ps ho (dc l).toArray i _ hu hi hz (by rw [hs]; omega) (by rw [hs]; omega) ?_ h
  rw [parts_eval a ps .u8 (l.map fun b => (b.toNat : Int)) hparts, hs, h2]
  exact Great.fill_flat _ _ (fun v hv => by simp only [dc, List.mem_map] at hv; obtain ⟨n, _, rfl⟩ := hv; rfl) (by simp [hlen, dc])
theorem at_convert {t t' : TypeId} {x : Operand} (_ : o.op = .convert t t' x) (h : wpList P ops Q (o :: rest) a w) : wpList P ops Q (o :: rest) a w := h
theorem at_on {a : Act} {rest : List Oper} {o : Oper} {w : World} (l : List UInt8) (w0 : World) (_ : w = w0.alloc (.cells (dc l).toArray 5)) (h : wpList P ops Q (o :: rest) a w) : wpList P ops Q (o :: rest) a w := h
theorem at_binop {b : BinOp} {t t' : TypeId} {x y : Operand} (_ : o.op = .binOp b t x y t') (h : wpList P ops Q (o :: rest) a w) : wpList P ops Q (o :: rest) a w := h
theorem wp_mark {K : Act → World → Prop} {t e : TypeId} {x : Operand} {l : List UInt8} (ho : o.op = .convert t t x) (hA : At w0 L w) (hu : P.underlying t = some (.slice e)) (he : P.underlying e = some (.int .u8)) {n c : Nat} (hx : a.eval x = .slice (some ⟨w.heap.size, 0, none⟩) n c)
    (h : ∀ g w', w.heap.size ≤ g → At w0 L w' → Bts w' (some ⟨g, 0, none⟩) l → g < w'.heap.size → K (a.put o.dst (.slice (some ⟨g, 0, none⟩) n c)) w') : o.wp P a (w.alloc (.cells (dc l).toArray e)) K Q := by
  have hr := Lib.run_convert_bytes_const (P := P) w t e (dc l).toArray n c hu he
  have hlt : w.heap.size < (w.alloc (.cells (dc l).toArray e ((dc l).toArray.size, (dc l).toArray.size + 1))).heap.size := by
    show w.heap.size < (w.heap.push _).size
    rw [Array.size_push]; omega
  have h1 := h w.heap.size _ (Nat.le_refl _) (hA.alloc0 (.cells (dc l).toArray e ((dc l).toArray.size, (dc l).toArray.size + 1))) (fun _ => ⟨w.heap.size, 0, rfl, hlt, fun i hi => by
    have h2 : (w.alloc (.cells (dc l).toArray e ((dc l).toArray.size, (dc l).toArray.size + 1))).heap[w.heap.size]? = some (.cells (dc l).toArray e ((dc l).toArray.size, (dc l).toArray.size + 1)) := by
      show (w.heap.push _)[w.heap.size]? = _
      simp
    unfold World.cell?
    simp only [h2]
    rw [Nat.zero_add]
    simpa using dc_at hi⟩) hlt
  unfold Oper.wp execOp
  simp only [ho, hx, Sem.run_bind, hr, Result.andThen_ok, Sem.run_pure]
  exact h1
theorem wp_val {K : Act → World → Prop} {v : Value} (hr : (execOp a.eval o).run P w = .ok (.value v) w) (h : K (a.put o.dst v) w) : o.wp P a w K Q := by
  unfold Oper.wp
  rw [hr]
  exact h
end
def text28 : List UInt8 := [116, 104, 101, 32, 116, 104, 105, 114, 100, 32, 99, 97, 115, 101, 32, 111, 102, 32, 116, 104, 101, 32, 100, 111, 99, 107, 101, 116]
def known : ByteArray := { data := #[52, 52, 57, 52, 55, 48, 53, 55, 54, 50, 55, 53, 51, 48, 49, 55, 49, 48, 100, 101, 97, 53, 49, 54, 54, 50, 100, 98, 56, 55, 99, 98, 50, 101, 52, 51, 51, 51, 100, 50, 57, 100, 102, 97, 50, 51, 101, 48, 98, 55, 48, 101, 98, 51, 55, 55, 49, 57, 56, 98, 52, 102, 53, 98] }
theorem known_eq : sha text28 = writtenL known := by decide +kernel
end Go.Proofs.YtppmhlkonemebaaDoor
