/- Slices of bytes that are made: make, append onto nil. Plain lemmas over the model; no program. -/
import Derived.Test.YthphfbohhbkdgaaBytes
import Derived.Laws.MakeOwn
import Derived.Deep.AppendSrc
import Derived.Laws.IdiomStrings
namespace Go.Dk
open Go Go.RowKit
/-- cells of one byte -/
def byteInfo (P : Program) (e : TypeId) : Prop := (P.info? e).map (fun i => (i.zero, i.size, i.bytes)) = some (some (.int .u8 0), 1, 1)
theorem byteInfo_spec {P : Program} {e : TypeId} (h : byteInfo P e) : ∃ i, P.info? e = some i ∧ i.zero = some (.int .u8 0) ∧ i.size = 1 ∧ i.bytes = 1 := by
  unfold byteInfo at h
  cases hi : P.info? e with
  | none => simp [hi] at h
  | some i =>
    rw [hi] at h
    simp only [Option.map_some, Option.some.injEq, Prod.mk.injEq] at h
    exact ⟨i, rfl, h.1, h.2.1, h.2.2⟩
theorem madeCells_bytes (n : Nat) : (madeCells (Value.int .u8 0).cells n).toList = dc (List.replicate n 0) := by
  simp [madeCells, Value.cells, dc, Nat.mod_one]
  apply List.ext_getElem <;> simp
theorem zeroCells_bytes (n : Nat) : (Builtin.zeroCells (Value.int .u8 0).cells n).toList = dc (List.replicate n 0) := by
  simp [Builtin.zeroCells, Value.cells, dc, Nat.mod_one]
  apply List.ext_getElem <;> simp
theorem Bts.fresh {w0 w : World} {L : List Row} {A : Option Addr} {l : List UInt8} (h : Bts w0 A l) (hA : At w0 L w) (hn : ∀ r ∈ L, w0.heap.size ≤ r.1) : Bts w A l := fun hne => by
  obtain ⟨b, o, rfl, hb, hc⟩ := h hne
  have hs := hA.size
  refine ⟨b, o, rfl, by omega, fun i hi => (hA.old hb (fun hm => ?_) _ _).trans (hc i hi)⟩
  obtain ⟨r, hr, rfl⟩ := List.mem_map.1 hm
  have := hn r hr
  omega
theorem fill_put {l : List UInt8} {j : Nat} (h : j < l.length) (n : Nat) : (dc (l.take j ++ List.replicate (n + 1) 0)).set j (.int .u8 (bAt l j).toNat) = dc (l.take (j + 1) ++ List.replicate n 0) := by
  rw [dc_append, List.set_append, if_neg (by rw [dc_length, List.length_take]; omega), dc_length, List.length_take, show j - min j l.length = 0 by omega, dc_append, List.take_add_one, bAt_lt h]
  simp [dc, List.replicate_succ]
section
variable {P : Program} {ops : Array Oper} {Q : Exit → Act → World → Prop} {a : Act} {w0 w : World} {L : List Row} {rest : List Oper} {o : Oper}
theorem wp_make {K : Act → World → Prop} {t e : TypeId} {x y : Operand} (ho : o.op = .makeSlice t x y) (hA : At w0 L w) (hu : P.underlying t = some (.slice e)) (hb : byteInfo P e)
    {kl kc : IntKind} (n : Nat) (hx : a.eval x = .int kl (n : Int)) (hy : a.eval y = .int kc (n : Int)) (hn : n ≤ 140737488355328)
    (h : ∀ g w', w.heap.size ≤ g → At w0 ((g, e, dc (List.replicate n 0)) :: L) w' → K (a.put o.dst (.slice (some ⟨g, 0, none⟩) n n)) w') : o.wp P a w K Q := by
  obtain ⟨i, hi, hz, hs, hbb⟩ := byteInfo_spec hb
  have hr := run_make (P := P) w t e i _ hu hi hz kl kc n n (by omega) (by omega) (by rw [hbb]; omega) (by omega)
  have h1 := hA.alloc (madeCells (Value.int .u8 0).cells ((n : Int).toNat * i.size)) e
  rw [hs, Nat.mul_one, Int.toNat_natCast] at h1 hr
  rw [madeCells_bytes] at h1
  unfold Oper.wp execOp
  simp only [ho, hx, hy, Sem.run_bind, Sem.run_pure, hr, Result.andThen_ok]
  exact h _ _ (Nat.le_refl _) h1
/-- append(nil, l...) of some bytes -/
theorem run_append_nil {x y : Operand} {t tx e e' : TypeId} (ho : o.op = .call { callee := .builtin .append, args := #[x, y], argTypes := #[t, tx] }) (hA : At w0 L w)
    (hu : P.underlying t = some (.slice e)) (hux : P.underlying tx = some (.slice e')) (hb : byteInfo P e) {A : Option Addr} {c : Nat} {l : List UInt8} (hx : a.eval x = .slice none 0 0) (hy : a.eval y = .slice A l.length c)
    (hl : l ≠ []) (hn : l.length ≤ 140737488355328) (hr : Bts w A l) :
    ∃ g cap z w', (execOp a.eval o).run P w = .ok (.value (.slice (some ⟨g, 0, none⟩) l.length cap)) w' ∧ w.heap.size ≤ g ∧ l.length ≤ cap ∧ At w0 ((g, e, dc (l ++ List.replicate z 0)) :: L) w' := by
  obtain ⟨i, hi, hz, hs, hbb⟩ := byteInfo_spec hb
  obtain ⟨b, o', rfl, hbl, hcell⟩ := hr hl
  have hpos : 0 < l.length := List.length_pos_iff.2 hl
  have hsrc : Src P i.size tx (.slice (some ⟨b, o', none⟩) l.length c) l.length (dc l) w := Src.ofSlice w hux ⟨b, o', none⟩ l.length c (dc l) (by rw [dc_length, hs, Nat.mul_one])
    (fun j u hj => by
      have hjl : j < l.length := by have := (List.getElem?_eq_some_iff.1 hj).1; rwa [dc_length] at this
      rw [dc_at hjl] at hj
      rw [Addr.add_mid, hcell j hjl, ← hj]) (dc_one l)
  have hcap : Builtin.nextslicecap (0 + l.length) 0 * i.bytes ≤ 281474976710656 := by
    rw [hbb, Nat.mul_one, Nat.zero_add]
    unfold Builtin.nextslicecap
    split <;> omega
  have hrun := run_append_grow_src (P := P) w t tx o.type e i _ hu hi hz none 0 0 [] (run_firstCells_none w.drew i.size 0 0 0) (.slice (some ⟨b, o', none⟩) l.length c) l.length (dc l) hsrc (by omega) (by omega) hcap
  have h1 := hA.drew.alloc ((([] : List Value) ++ dc l).toArray ++ Builtin.zeroCells (Value.int .u8 0).cells (grownCap w (0 + l.length) 0 e - (0 + l.length))) e
  refine ⟨w.heap.size, grownCap w (0 + l.length) 0 e, grownCap w (0 + l.length) 0 e - (0 + l.length), w.drew.alloc (.cells ((([] : List Value) ++ dc l).toArray ++ Builtin.zeroCells (Value.int .u8 0).cells (grownCap w (0 + l.length) 0 e - (0 + l.length))) e), ?_, Nat.le_refl _, by have := grownCap_ge w (0 + l.length) 0 e; omega, ?_⟩
  · unfold execOp
    simp only [ho, hx, hy, resolve, invoke, builtin, Sem.run_bind, Sem.run_pure, Result.andThen_ok, List.map_toArray, List.map_cons, List.map_nil, hrun, Nat.zero_add]
  · have h2 : (([] ++ dc l).toArray ++ Builtin.zeroCells (Value.int .u8 0).cells (grownCap w (0 + l.length) 0 e - (0 + l.length))).toList = dc (l ++ List.replicate (grownCap w (0 + l.length) 0 e - (0 + l.length)) 0) := by
      rw [Array.toList_append, zeroCells_bytes, dc_append]; simp
    rw [h2] at h1
    exact h1
theorem wp_append_nil {K : Act → World → Prop} {x y : Operand} {t tx e e' : TypeId} (ho : o.op = .call { callee := .builtin .append, args := #[x, y], argTypes := #[t, tx] }) (hA : At w0 L w)
    (hu : P.underlying t = some (.slice e)) (hux : P.underlying tx = some (.slice e')) (hb : byteInfo P e) {A : Option Addr} {c : Nat} {l : List UInt8} (hx : a.eval x = .slice none 0 0) (hy : a.eval y = .slice A l.length c)
    (hl : l ≠ []) (hn : l.length ≤ 140737488355328) (hr : Bts w A l)
    (h : ∀ g cap z w', w.heap.size ≤ g → l.length ≤ cap → At w0 ((g, e, dc (l ++ List.replicate z 0)) :: L) w' → K (a.put o.dst (.slice (some ⟨g, 0, none⟩) l.length cap)) w') : o.wp P a w K Q := by
  obtain ⟨g, cap, z, w', h1, h2, h3, h4⟩ := run_append_nil ho hA hu hux hb hx hy hl hn hr
  unfold Oper.wp
  rw [h1]
  exact h g cap z w' h2 h3 h4
theorem run_convert_str {t t' e : TypeId} {x : Operand} (ho : o.op = .convert t t' x) (hu : P.underlying t = some (.slice e)) (he : P.underlying e = some (.int .u8)) (hd : P.underlying t' = some .string)
    {A : Option Addr} {c n : Nat} {l : List UInt8} (hx : a.eval x = .slice A n c) (hn : n = l.length) (hne : l ≠ []) (hr : Bts w A l) : (execOp a.eval o).run P w = .ok (.value (.string ⟨l.toArray⟩)) w := by
  subst hn
  obtain ⟨b, o', rfl, hb, hc⟩ := hr hne
  have h := run_convert_bytes_back (P := P) w t t' e ⟨b, o', none⟩ c l hu he hd (fun j hj => by rw [Addr.add_mid, hc j hj]; simp [bAt, hj])
  unfold execOp
  simp only [ho, hx, Sem.run_bind, h, Result.andThen_ok, Sem.run_pure]
/-- a slice literal -/
theorem wp_bs {K : Act → World → Prop} {t : TypeId} {n : Nat} {ps : Array (Nat × Operand)} (ho : o.op = .buildSlice t n ps) (hA : At w0 L w) {e : TypeId} {cells : Array Value}
    (hr : (Instr.buildSlice t n (ps.map fun (i, x) => (i, a.eval x))).run P w = .ok (.slice (some ⟨w.heap.size, 0, none⟩) n n) (w.alloc (.cells cells e)))
    (h : ∀ g w', w.heap.size ≤ g → At w0 ((g, e, cells.toList) :: L) w' → K (a.put o.dst (.slice (some ⟨g, 0, none⟩) n n)) w') : o.wp P a w K Q := by
  have h1 := h w.heap.size (w.alloc (.cells cells e)) (Nat.le_refl _) (hA.alloc _ _)
  unfold Oper.wp execOp
  simp only [ho, Sem.run_bind, hr, Result.andThen_ok, Sem.run_pure]
  exact h1
theorem wp_bs1 {K : Act → World → Prop} {t : TypeId} {x : Operand} (ho : o.op = .buildSlice t 1 #[(0, x)]) (hA : At w0 L w) {v : Value} (hx : a.eval x = v) {e : TypeId} {cells : Array Value}
    (hr : (Instr.buildSlice t 1 #[(0, v)]).run P w = .ok (.slice (some ⟨w.heap.size, 0, none⟩) 1 1) (w.alloc (.cells cells e)))
    (h : ∀ g w', w.heap.size ≤ g → At w0 ((g, e, cells.toList) :: L) w' → K (a.put o.dst (.slice (some ⟨g, 0, none⟩) 1 1)) w') : o.wp P a w K Q := by
  subst hx
  exact wp_bs ho hA (by simpa using hr) h
theorem wp_bs2 {K : Act → World → Prop} {t : TypeId} {x y : Operand} (ho : o.op = .buildSlice t 2 #[(0, x), (1, y)]) (hA : At w0 L w) {v u : Value} (hx : a.eval x = v) (hy : a.eval y = u) {e : TypeId} {cells : Array Value}
    (hr : (Instr.buildSlice t 2 #[(0, v), (1, u)]).run P w = .ok (.slice (some ⟨w.heap.size, 0, none⟩) 2 2) (w.alloc (.cells cells e)))
    (h : ∀ g w', w.heap.size ≤ g → At w0 ((g, e, cells.toList) :: L) w' → K (a.put o.dst (.slice (some ⟨g, 0, none⟩) 2 2)) w') : o.wp P a w K Q := by
  subst hx hy
  exact wp_bs ho hA (by simpa using hr) h
end
end Go.Dk
