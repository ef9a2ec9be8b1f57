/- append onto a slice of one's own. Plain lemmas over the model; no program. -/
import Derived.Test.YthphfbohhbkdgaaMake
import Derived.Deep.DeepAppendWide
namespace Go.Dk
open Go Go.RowKit
section
variable {P : Program} {ops : Array Oper} {Q : Exit → Act → World → Prop} {a : Act} {w0 w : World} {R : List Row} {rest : List Oper} {o : Oper}
/-- there is room: the bytes are written behind -/
theorem run_append_room {x y : Operand} {t tx e e' : TypeId} (ho : o.op = .call { callee := .builtin .append, args := #[x, y], argTypes := #[t, tx] }) {g : Nat} {W Z : List UInt8} (hA : At w0 ((g, e, dc (W ++ Z)) :: R) w)
    (hu : P.underlying t = some (.slice e)) (hux : P.underlying tx = some (.slice e')) (hb : byteInfo P e) {A : Option Addr} {c : Nat} {l : List UInt8} (hx : a.eval x = .slice (some ⟨g, 0, none⟩) W.length (W.length + Z.length)) (hy : a.eval y = .slice A l.length c)
    (hl : l ≠ []) (hroom : l.length ≤ Z.length) (hr : Bts w A l) :
    ∃ w', (execOp a.eval o).run P w = .ok (.value (.slice (some ⟨g, 0, none⟩) (W ++ l).length ((W ++ l).length + (Z.drop l.length).length))) w' ∧ At w0 ((g, e, dc ((W ++ l) ++ Z.drop l.length)) :: R) w' := by
  obtain ⟨i, hi, hz, hs, hbb⟩ := byteInfo_spec hb
  obtain ⟨b, o', rfl, hbl, hcell⟩ := hr hl
  have hrow := hA.row (k := 0) rfl
  have hst := run_storeCells_at P g W.length e (dc l) 0 _ w hrow (by simp [dc]; omega) (dc_one l)
  have hput := hA.put (k := 0) rfl (splice (dc (W ++ Z)) W.length (dc l))
  have he : splice (dc (W ++ Z)) W.length (dc l) = dc ((W ++ l) ++ Z.drop l.length) := by
    unfold splice
    rw [dc_length, dc_take, dc_drop, List.take_left' rfl, List.drop_append, List.drop_of_length_le (by omega), List.nil_append, show W.length + l.length - W.length = l.length by omega, dc_append, dc_append]
  rw [he] at hput
  have hl' := run_loadCells_list (P := P) w ⟨b, o', none⟩ (dc l) (fun j v hj => by
    rw [Addr.add_mid]
    have hjl : j < l.length := by
      have := (List.getElem?_eq_some_iff.1 hj).1
      rwa [dc_length] at this
    rw [dc_at hjl] at hj
    rw [hcell j hjl, ← hj])
  rw [dc_length] at hl'
  refine ⟨_, ?_, hput⟩
  have hsz : (sizeOf e).run P w = .ok 1 w := run_sizeOf (w := w) (by rw [hi]; simp [hs])
  unfold execOp
  simp only [ho, hx, hy, resolve, invoke, builtin, Builtin.append_, Builtin.lenOf, Builtin.firstCells, List.map_toArray, List.map_cons, List.map_nil, Sem.run_bind, Sem.run_pure, Result.andThen_ok, run_underlying hu w, run_underlying hux w, List.getElem?_toArray, List.getElem?_cons_zero,
      List.getElem?_cons_succ, hsz, Nat.mul_one, if_true, Bool.not_false]
  have hst' : (storeCells ⟨g, W.length, none⟩ (dc l)).run P w = .ok () (w.setRow g (dc ((W ++ l) ++ Z.drop l.length)).toArray) := by
    rw [hst]
    simp only [Nat.add_zero]
    rw [show (List.take W.length (dc (W ++ Z)).toArray.toList ++ dc l ++ List.drop (W.length + (dc l).length) (dc (W ++ Z)).toArray.toList) = splice (dc (W ++ Z)) W.length (dc l) from rfl, he]
  have hlen : (W ++ l).length + (Z.drop l.length).length = W.length + Z.length := by simp; omega
  rw [hlen]
  simp [hl', hroom, Addr.add_mid, hst']
/-- there is none: a new row -/
theorem run_append_grow_own {x y : Operand} {t tx e e' : TypeId} (ho : o.op = .call { callee := .builtin .append, args := #[x, y], argTypes := #[t, tx] }) {g : Nat} {W Z : List UInt8} (hA : At w0 ((g, e, dc (W ++ Z)) :: R) w) (hg : w0.heap.size ≤ g)
    (hu : P.underlying t = some (.slice e)) (hux : P.underlying tx = some (.slice e')) (hb : byteInfo P e) {A : Option Addr} {c : Nat} {l : List UInt8} (hx : a.eval x = .slice (some ⟨g, 0, none⟩) W.length (W.length + Z.length)) (hy : a.eval y = .slice A l.length c)
    (hl : l ≠ []) (hroom : ¬ l.length ≤ Z.length) (hn : W.length + l.length ≤ 140737488355328) (hr : Bts w A l) :
    ∃ g' Z' w', (execOp a.eval o).run P w = .ok (.value (.slice (some ⟨g', 0, none⟩) (W ++ l).length ((W ++ l).length + Z'.length))) w' ∧ w.heap.size ≤ g' ∧ At w0 ((g', e, dc ((W ++ l) ++ Z')) :: R) w' := by
  obtain ⟨i, hi, hz, hs, hbb⟩ := byteInfo_spec hb
  obtain ⟨b, o', rfl, hbl, hcell⟩ := hr hl
  have hsrc : Src P i.size tx (.slice (some ⟨b, o', none⟩) l.length c) l.length (dc l) w := Src.ofSlice w hux ⟨b, o', none⟩ l.length c (dc l) (by rw [dc_length, hs, Nat.mul_one])
    (fun j u hj => by
      have hjl : j < l.length := by have := (List.getElem?_eq_some_iff.1 hj).1; rwa [dc_length] at this
      rw [dc_at hjl] at hj
      rw [Addr.add_mid, hcell j hjl, ← hj]) (dc_one l)
  have hcap : Builtin.nextslicecap (W.length + l.length) (W.length + Z.length) * i.bytes ≤ 281474976710656 := by
    have := nextslicecap_le_wide (need := W.length + l.length) (old := W.length + Z.length) (by omega)
    rw [hbb, Nat.mul_one]; omega
  have hold := run_firstCells_some (P := P) w.drew i.size W.length ⟨g, 0, none⟩ W.length (W.length + Z.length) (dc W) (by rw [dc_length, hs, Nat.mul_one]) (fun j u hj => by
    have hjl : j < W.length := by have := (List.getElem?_eq_some_iff.1 hj).1; rwa [dc_length] at this
    rw [Addr.add_mid, hA.drew.cell (k := 0) rfl, Nat.zero_add, dc_append, List.getElem?_append_left (by rw [dc_length]; exact hjl), hj])
  have hrun := run_append_grow_src (P := P) w t tx o.type e i _ hu hi hz (some ⟨g, 0, none⟩) W.length (W.length + Z.length) (dc W) hold (.slice (some ⟨b, o', none⟩) l.length c) l.length (dc l) hsrc (by omega) (by omega) hcap
  generalize hq : grownCap w (W.length + l.length) (W.length + Z.length) e = q at hrun
  have hqge : W.length + l.length ≤ q := by rw [← hq]; exact grownCap_ge w _ _ e
  have h1 := hA.drew.alloc ((dc W ++ dc l).toArray ++ Builtin.zeroCells (Value.int .u8 0).cells (q - (W.length + l.length))) e
  have h2 : ((dc W ++ dc l).toArray ++ Builtin.zeroCells (Value.int .u8 0).cells (q - (W.length + l.length))).toList = dc ((W ++ l) ++ List.replicate (q - (W.length + l.length)) 0) := by
    rw [Array.toList_append, zeroCells_bytes, dc_append, dc_append]
  rw [h2] at h1
  refine ⟨w.heap.size, List.replicate (q - (W.length + l.length)) 0, w.drew.alloc (.cells ((dc W ++ dc l).toArray ++ Builtin.zeroCells (Value.int .u8 0).cells (q - (W.length + l.length))) e), ?_, Nat.le_refl _, ?_⟩
  · have hlen : (W ++ l).length + (List.replicate (q - (W.length + l.length)) (0 : UInt8)).length = q := by simp; omega
    rw [hlen, List.length_append]
    unfold execOp
    simp only [ho, hx, hy, resolve, invoke, builtin, Sem.run_bind, Sem.run_pure, Result.andThen_ok, List.map_toArray, List.map_cons, List.map_nil, hrun]
  · refine h1.drop (List.Sublist.cons_cons _ (List.Sublist.cons _ (List.Sublist.refl _))) (fun r hr hlt => ?_)
    simp only [List.mem_cons] at hr ⊢
    rcases hr with rfl | rfl | hr
    · exact .inl rfl
    · simp only at hlt; omega
    · exact .inr hr
theorem wp_append_own {K : Act → World → Prop} {x y : Operand} {t tx e e' : TypeId} (ho : o.op = .call { callee := .builtin .append, args := #[x, y], argTypes := #[t, tx] }) {g : Nat} {W Z : List UInt8} (hA : At w0 ((g, e, dc (W ++ Z)) :: R) w) (hg : w0.heap.size ≤ g)
    (hu : P.underlying t = some (.slice e)) (hux : P.underlying tx = some (.slice e')) (hb : byteInfo P e) {A : Option Addr} {c : Nat} {l : List UInt8} (hx : a.eval x = .slice (some ⟨g, 0, none⟩) W.length (W.length + Z.length)) (hy : a.eval y = .slice A l.length c)
    (hl : l ≠ []) (hn : W.length + l.length ≤ 140737488355328) (hr : Bts w A l)
    (h : ∀ g' Z' w', w0.heap.size ≤ g' → At w0 ((g', e, dc ((W ++ l) ++ Z')) :: R) w' → K (a.put o.dst (.slice (some ⟨g', 0, none⟩) (W ++ l).length ((W ++ l).length + Z'.length))) w') : o.wp P a w K Q := by
  by_cases hroom : l.length ≤ Z.length
  · obtain ⟨w', h1, h2⟩ := run_append_room ho hA hu hux hb hx hy hl hroom hr
    unfold Oper.wp
    rw [h1]
    exact h g _ w' hg h2
  · obtain ⟨g', Z', w', h1, h2, h3⟩ := run_append_grow_own ho hA hg hu hux hb hx hy hl hroom hn hr
    unfold Oper.wp
    rw [h1]
    exact h g' Z' w' (Nat.le_trans hA.size h2) h3
/-- an empty piece: the slice as it was -/
theorem run_append_empty {x y : Operand} {t tx e e' : TypeId} (ho : o.op = .call { callee := .builtin .append, args := #[x, y], argTypes := #[t, tx] })
    (hu : P.underlying t = some (.slice e)) (hux : P.underlying tx = some (.slice e')) (hb : byteInfo P e) {B A : Option Addr} {n cap c : Nat} (hx : a.eval x = .slice B n cap) (hnc : n ≤ cap) (hy : a.eval y = .slice A 0 c) :
    (execOp a.eval o).run P w = .ok (.value (.slice B n cap)) w := by
  obtain ⟨i, hi, hz, hs, hbb⟩ := byteInfo_spec hb
  have hsz : (sizeOf e).run P w = .ok 1 w := run_sizeOf (w := w) (by rw [hi]; simp [hs])
  unfold execOp
  cases A <;> cases B <;>
  simp [ho, hx, hy, resolve, invoke, builtin, Builtin.append_, Builtin.lenOf, Builtin.firstCells, run_underlying hu w, run_underlying hux w, hsz, hnc, loadCells, loadCellsFrom, storeCells]
end
end Go.Dk
