/- Texts that belong together, one behind the other. -/
import Derived.WalkKit
import Derived.ProofKit
import Derived.Lib.Hide
import Derived.Deep.MidRow
import Derived.Deep.Draws
import Derived.Deep.WholeRow
import Derived.BigQuiet
import Derived.OrdersHeld
import Derived.Tactics
import Derived.Tactics2
import Derived.KernelRfl
import Derived.Laws.World
import Derived.Test.YtpomngkcfbnjoaaDoorRows
import Derived.Laws.BitsAllLaws
/- What memory is known to hold, as one list of rows: 'At w0 L w': w is w0 but for new blocks and the rows listed in L, which lie as listed. Plain lemmas over the model; no program. -/
namespace Go.Dk
open Go Go.RowKit

abbrev Row := Nat × TypeId × List Value

structure At (w0 : World) (L : List Row) (w : World) : Prop where
  os : w.os = w0.os
  tape : w.tape = w0.tape
  output : w.output = w0.output
  size : w0.heap.size ≤ w.heap.size
  rows : ∀ r ∈ L, w.heap[r.1]? = some (.cells r.2.2.toArray r.2.1 (0, 0))
  dist : (L.map (·.1)).Nodup
  frame : ∀ k, k < w0.heap.size → k ∉ L.map (·.1) → w.heap[k]? = w0.heap[k]?

section
variable {w0 w w' : World} {L K L' : List Row} {g : Nat} {t : TypeId} {cs : List Value}

theorem keys_set {r r' : Row} {k : Nat} (hk : L[k]? = some r) (he : r'.1 = r.1) : (L.set k r').map (·.1) = L.map (·.1) := by
  rw [List.map_set]
  apply List.ext_getElem?
  intro i
  rw [List.getElem?_set]
  split
  · rename_i e
    subst e
    obtain ⟨hkl, hv⟩ := List.getElem?_eq_some_iff.1 hk
    simp [hkl, he, hv]
  · rfl
theorem key_inj (hd : (L.map (·.1)).Nodup) {i k : Nat} {r r' : Row} (hi : L[i]? = some r) (hk : L[k]? = some r') (he : r.1 = r'.1) : i = k := by
  have h1 : (L.map (·.1))[i]? = some r.1 := by simp [hi]
  have h2 : (L.map (·.1))[k]? = some r.1 := by simp [hk, he]
  have hil : i < (L.map (·.1)).length := (List.getElem?_eq_some_iff.1 h1).1
  exact (List.getElem?_inj hil hd).1 (h1.trans h2.symm)
theorem At.refl (w : World) : At w [] w := ⟨rfl, rfl, rfl, Nat.le_refl _, (fun _ h => by cases h), List.nodup_nil, fun _ _ _ => rfl⟩
theorem At.start (hr : ∀ r ∈ L, w.heap[r.1]? = some (.cells r.2.2.toArray r.2.1 (0, 0))) (hd : (L.map (·.1)).Nodup) : At w L w :=
  ⟨rfl, rfl, rfl, Nat.le_refl _, hr, hd, fun _ _ _ => rfl⟩
theorem At.start1 (h : w.heap[g]? = some (.cells cs.toArray t (0, 0))) : At w [(g, t, cs)] w :=
  At.start (by simpa using h) (by simp)
theorem At.row (h : At w0 L w) {k : Nat} (hk : L[k]? = some (g, t, cs)) : w.heap[g]? = some (.cells cs.toArray t (0, 0)) :=
  h.rows _ (List.mem_of_getElem? hk)
theorem lt_of_row (h : w.heap[g]? = some (.cells cs.toArray t (0, 0))) : g < w.heap.size := (Array.getElem?_eq_some_iff.1 h).1
theorem At.lt (h : At w0 L w) {k : Nat} (hk : L[k]? = some (g, t, cs)) : g < w.heap.size := lt_of_row (h.row hk)
theorem At.mem_lt (h : At w0 L w) {r : Row} (hr : r ∈ L) : r.1 < w.heap.size := (Array.getElem?_eq_some_iff.1 (h.rows r hr)).1
theorem At.key_lt (h : At w0 L w) {k : Nat} (hk : k ∈ L.map (·.1)) : k < w.heap.size := by
  obtain ⟨r, hr, rfl⟩ := List.mem_map.1 hk
  exact h.mem_lt hr
theorem At.cell (h : At w0 L w) {k : Nat} (hk : L[k]? = some (g, t, cs)) (j : Nat) : w.cell? ⟨g, j, none⟩ = cs[j]? := by
  rw [cell_of_row w g j _ t (0, 0) (h.row hk)]; simp
theorem At.frozen (h : At w0 L w) {k : Nat} (hk : L[k]? = some (g, t, cs)) (j : Nat) : w.frozen? ⟨g, j, none⟩ = false := by
  simp [World.frozen?, h.row hk]
theorem At.old (h : At w0 L w) {b : Nat} (hb : b < w0.heap.size) (hn : b ∉ L.map (·.1)) (j : Nat) (s : Option Nat) : w.cell? ⟨b, j, s⟩ = w0.cell? ⟨b, j, s⟩ := by
  simp [World.cell?, h.frame b hb hn]
theorem At.below (h : At w0 L w) (hL : ∀ r ∈ L, w0.heap.size ≤ r.1) : Below w0.heap.size w0 w :=
  ⟨h.os, h.tape, h.output, h.size, fun k hk => h.frame k hk (fun hm => by
    obtain ⟨r, hr, rfl⟩ := List.mem_map.1 hm
    have := hL r hr
    omega)⟩
theorem At.drew (h : At w0 L w) : At w0 L w.drew := ⟨h.os, h.tape, h.output, h.size, h.rows, h.dist, h.frame⟩
theorem At.drewN (h : At w0 L w) (n : Nat) : At w0 L (w.drewN n) := ⟨h.os, h.tape, h.output, h.size, h.rows, h.dist, h.frame⟩
theorem At.drawn (h : At w0 L w) (n : Nat) : At w0 L { w with drawn := n } := ⟨h.os, h.tape, h.output, h.size, h.rows, h.dist, h.frame⟩

theorem heap_alloc_lt (o : Obj) {k : Nat} (h : k < w.heap.size) : (w.alloc o).heap[k]? = w.heap[k]? := by
  simp only [World.alloc]
  rw [Array.getElem?_push]
  have : ¬ k = w.heap.size := by omega
  simp [this]

/-- A new block that nobody lists. -/
theorem At.alloc0 (h : At w0 L w) (o : Obj) : At w0 L (w.alloc o) :=
  ⟨h.os, h.tape, h.output, by simp only [World.alloc, Array.size_push]; have := h.size; omega,
   fun r hr => by rw [heap_alloc_lt o (h.mem_lt hr)]; exact h.rows r hr, h.dist,
   fun k hk hn => by rw [heap_alloc_lt o (by have := h.size; omega)]; exact h.frame k hk hn⟩
/-- A new row. -/
theorem At.alloc (h : At w0 L w) (cs : Array Value) (t : TypeId) : At w0 ((w.heap.size, t, cs.toList) :: L) (w.alloc (.cells cs t)) := by
  have h' := h.alloc0 (.cells cs t)
  refine ⟨h'.os, h'.tape, h'.output, h'.size, ?_, ?_, ?_⟩
  · intro r hr
    rcases List.mem_cons.1 hr with rfl | hr
    · show (w.heap.push _)[w.heap.size]? = _
      simp
    · exact h'.rows r hr
  · simp only [List.map_cons, List.nodup_cons]
    exact ⟨fun hm => by have := h.key_lt hm; omega, h.dist⟩
  · intro k hk hn
    simp only [List.map_cons, List.mem_cons, not_or] at hn
    exact h'.frame k hk hn.2

/-- A row is written anew. -/
theorem At.put (h : At w0 L w) {k : Nat} (hk : L[k]? = some (g, t, cs)) (cs' : List Value) : At w0 (L.set k (g, t, cs')) (w.setRow g cs'.toArray) := by
  have hkl : k < L.length := (List.getElem?_eq_some_iff.1 hk).1
  have hkey := keys_set hk (r' := (g, t, cs')) rfl
  refine ⟨h.os, h.tape, h.output, by simpa using h.size, ?_, by rw [hkey]; exact h.dist, ?_⟩
  · intro r hr
    obtain ⟨i, hi⟩ := List.mem_iff_getElem?.1 hr
    rw [List.getElem?_set] at hi
    split at hi
    · rename_i e
      subst e
      injection hi with hi
      subst hi
      exact setRow_heap w g _ _ t (0, 0) (h.row hk)
    · rename_i e
      have hne : r.1 ≠ g := fun he => e (key_inj h.dist hi hk he).symm
      rw [setRow_other w g r.1 _ hne]
      exact h.rows r (List.mem_of_getElem? hi)
  · intro i hi hn
    rw [hkey] at hn
    have hne : i ≠ g := fun e => hn (by subst e; exact List.mem_map.2 ⟨_, List.mem_of_getElem? hk, rfl⟩)
    rw [setRow_other w g i _ hne]
    exact h.frame i hi hn

/-- One call behind another: the rows that are listed at the end are the callee's, or listed before and not the callee's. -/
theorem At.trans (h : At w0 L w) (hc : At w K w') (L' : List Row) (h1 : ∀ r ∈ L', r ∈ K ∨ (r ∈ L ∧ r.1 ∉ K.map (·.1))) (hd : (L'.map (·.1)).Nodup)
    (h2 : ∀ r ∈ K, r.1 < w0.heap.size → r.1 ∈ L'.map (·.1)) (h3 : ∀ r ∈ L, r.1 < w0.heap.size → r.1 ∈ L'.map (·.1)) : At w0 L' w' := by
  refine ⟨hc.os.trans h.os, hc.tape.trans h.tape, hc.output.trans h.output, Nat.le_trans h.size hc.size, ?_, hd, ?_⟩
  · intro r hr
    rcases h1 r hr with hk | ⟨hl, hn⟩
    · exact hc.rows r hk
    · rw [hc.frame r.1 (h.mem_lt hl) hn]
      exact h.rows r hl
  · intro k hk hn
    rw [hc.frame k (Nat.lt_of_lt_of_le hk h.size) (fun hm => by
      obtain ⟨r, hr, rfl⟩ := List.mem_map.1 hm
      exact hn (h2 r hr hk))]
    exact h.frame k hk (fun hm => by
      obtain ⟨r, hr, rfl⟩ := List.mem_map.1 hm
      exact hn (h3 r hr hk))
/-- A callee that leaves all that was there. -/
theorem At.then0 (h : At w0 L w) (hc : At w [] w') : At w0 L w' :=
  h.trans hc L (fun r hr => .inr ⟨hr, by simp⟩) h.dist (fun _ hr => by cases hr) (fun r hr _ => List.mem_map.2 ⟨r, hr, rfl⟩)
/-- A callee whose rows are all new. -/
theorem At.thenNew (h : At w0 L w) (hc : At w K w') (hn : ∀ r ∈ K, w.heap.size ≤ r.1) : At w0 (K ++ L) w' := by
  refine h.trans hc (K ++ L) (fun r hr => ?_) ?_ (fun r hr _ => by simp; exact .inl ⟨_, _, hr⟩) (fun r hr _ => by simp; exact .inr ⟨_, _, hr⟩)
  · rcases List.mem_append.1 hr with hr | hr
    · exact .inl hr
    · refine .inr ⟨hr, fun hm => ?_⟩
      obtain ⟨r', hr', he⟩ := List.mem_map.1 hm
      have h1 := hn r' hr'
      have h2 := h.mem_lt hr
      omega
  · rw [List.map_append, List.nodup_append]
    refine ⟨hc.dist, h.dist, fun a ha b hb => ?_⟩
    obtain ⟨r, hr, rfl⟩ := List.mem_map.1 ha
    obtain ⟨r', hr', rfl⟩ := List.mem_map.1 hb
    have h1 := hn r hr
    have h2 := h.mem_lt hr'
    omega
/-- A callee that writes one row of those that are listed. -/
theorem At.then1 (h : At w0 L w) {k : Nat} (hk : L[k]? = some (g, t, cs)) {t' : TypeId} {cs' : List Value} (hc : At w [(g, t', cs')] w') : At w0 (L.set k (g, t', cs')) w' := by
  have hkl : k < L.length := (List.getElem?_eq_some_iff.1 hk).1
  have hkey := keys_set hk (r' := (g, t', cs')) rfl
  refine h.trans hc _ (fun r hr => ?_) (by rw [hkey]; exact h.dist) (fun r hr _ => ?_) (fun r hr _ => by rw [hkey]; exact List.mem_map.2 ⟨r, hr, rfl⟩)
  · obtain ⟨i, hi⟩ := List.mem_iff_getElem?.1 hr
    rw [List.getElem?_set] at hi
    split at hi
    · rename_i e
      subst e
      injection hi with hi
      subst hi
      exact .inl (by simp)
    · rename_i e
      refine .inr ⟨List.mem_of_getElem? hi, fun hm => ?_⟩
      have he : r.1 = g := by simpa using hm
      exact e (key_inj h.dist hi hk he).symm
  · rw [hkey]
    simp only [List.mem_singleton] at hr
    subst hr
    exact List.mem_map.2 ⟨_, List.mem_of_getElem? hk, rfl⟩
/-- Rows are forgotten, but for those that stood at the start. -/
theorem At.drop (h : At w0 L w) (hs : L'.Sublist L) (hn : ∀ r ∈ L, r.1 < w0.heap.size → r ∈ L') : At w0 L' w :=
  ⟨h.os, h.tape, h.output, h.size, fun r hr => h.rows r (hs.subset hr), (hs.map (·.1)).nodup h.dist,
   fun k hk hn' => h.frame k hk (fun hm => by
    obtain ⟨r, hr, rfl⟩ := List.mem_map.1 hm
    exact hn' (List.mem_map.2 ⟨r, hn r hr hk, rfl⟩))⟩
theorem At.clear (h : At w0 L w) (hn : ∀ r ∈ L, w0.heap.size ≤ r.1) : At w0 [] w :=
  h.drop (List.nil_sublist _) (fun r hr hlt => by have := hn r hr; omega)
end

section
variable {w0 w : World} {L : List Row} {g : Nat} {t : TypeId} {cs : List Value}
/-- A row that stood at the start and is as it was is listed, too. -/
theorem At.add (h : At w0 L w) (hg : w0.heap[g]? = some (.cells cs.toArray t (0, 0))) (hn : g ∉ L.map (·.1)) : At w0 (L ++ [(g, t, cs)]) w := by
  refine ⟨h.os, h.tape, h.output, h.size, ?_, ?_, ?_⟩
  · intro r hr
    rcases List.mem_append.1 hr with hr | hr
    · exact h.rows r hr
    · simp only [List.mem_singleton] at hr
      subst hr
      rw [h.frame g (lt_of_row hg) hn]
      exact hg
  · rw [List.map_append, List.nodup_append]
    refine ⟨h.dist, by simp, fun a ha b hb => ?_⟩
    simp only [List.map_cons, List.map_nil, List.mem_singleton] at hb
    subst hb
    rintro rfl
    exact hn ha
  · intro k hk hm
    rw [List.map_append, List.mem_append, not_or] at hm
    exact h.frame k hk hm.1
end

/-- cells, from an offset on, written anew -/
def splice (cs : List Value) (off : Nat) (new : List Value) : List Value := cs.take off ++ new ++ cs.drop (off + new.length)
section
variable {cs new : List Value} {off k : Nat}
theorem splice_length (h : off + new.length ≤ cs.length) : (splice cs off new).length = cs.length := by simp [splice]; omega
theorem splice_at (h : off + new.length ≤ cs.length) (hk : k < new.length) : (splice cs off new)[off + k]? = new[k]? := by
  unfold splice
  rw [List.append_assoc, List.getElem?_append_right (by simp; omega), List.length_take, show off + k - min off cs.length = k by omega, List.getElem?_append_left hk]
theorem splice_set (v : Value) (h : off + new.length ≤ cs.length) (hk : k < new.length) : (splice cs off new).set (off + k) v = splice cs off (new.set k v) := by
  unfold splice
  rw [List.length_set, List.append_assoc, List.set_append, if_neg (by simp; omega), List.length_take, show off + k - min off cs.length = k by omega, List.set_append, if_pos hk, List.append_assoc]
theorem splice_self (h : (cs.drop off).take new.length = new) : splice cs off new = cs := by
  unfold splice
  rw [List.append_assoc]
  conv => rhs; rw [← List.take_append_drop off cs]
  congr 1
  conv => rhs; rw [← List.take_append_drop new.length (cs.drop off), h]
  rw [List.drop_drop]
theorem splice_all' (X Y : List Value) (h : X.length = Y.length) : splice X 0 Y = Y := by
  have : X.drop (0 + Y.length) = [] := by simp [← h]
  unfold splice
  rw [this]
  simp
end

/-! ### Operations on memory, one rule each -/
section
variable {P : Program} {ops : Array Oper} {Q : Exit → Act → World → Prop} {a : Act} {w0 w : World} {L : List Row} {rest : List Oper} {o : Oper}

def notRow (P : Program) (t : TypeId) : Bool := match P.underlying t with
  | some (.struct _) | some (.array _ _) | none => false
  | some _ => true
def isRow (P : Program) (t : TypeId) (n : Nat) : Bool := (match P.underlying t with
  | some (.struct _) | some (.array _ _) => true
  | _ => false) && ((P.info? t).map (·.size) == some n)
def zeroIs (P : Program) (t : TypeId) (v : Value) : Prop := (P.info? t).map (fun i => i.zero) = some (some v)

theorem run_isAgg_no {t : TypeId} (h : notRow P t = true) (w : World) : (isAgg t).run P w = .ok false w := by
  unfold notRow at h
  unfold isAgg
  cases hu : P.underlying t with
  | none => simp [hu] at h
  | some d =>
    rw [Sem.run_bind, run_underlying hu w]
    cases d <;> simp_all

theorem wp_box {K : Act → World → Prop} {t : TypeId} {x : Operand} (ho : o.op = .box t x) (hA : At w0 L w) {v : Value} (hx : a.eval x = v)
    (h : ∀ n w', w.heap.size ≤ n → At w0 ((n, t, v.cells.toList) :: L) w' → K (a.put o.dst (.pointer (some ⟨n, 0, none⟩))) w') : o.wp P a w K Q := by
  have h1 := h w.heap.size (w.alloc (.cells v.cells t)) (Nat.le_refl _) (hA.alloc _ _)
  unfold Oper.wp execOp
  simp only [ho, hx, Instr.box, newVar, newRow, newObj, Sem.run_bind, Sem.run_pure]
  exact h1
theorem wp_alloc {K : Act → World → Prop} {t : TypeId} (ho : o.op = .alloc t) (hA : At w0 L w) {v : Value} (hz : zeroIs P t v)
    (h : ∀ n w', w.heap.size ≤ n → At w0 ((n, t, v.cells.toList) :: L) w' → K (a.put o.dst (.pointer (some ⟨n, 0, none⟩))) w') : o.wp P a w K Q := by
  have h1 := h w.heap.size (w.alloc (.cells v.cells t)) (Nat.le_refl _) (hA.alloc _ _)
  unfold zeroIs at hz
  unfold Oper.wp execOp
  cases hi : P.info? t with
  | none => simp [hi] at hz
  | some i =>
    have hz' : i.zero = some v := by simpa [hi] using hz
    simp only [ho, Instr.alloc, zeroValue, typeInfo, hi, hz', newVar, newRow, newObj, Sem.run_bind, Sem.run_pure, run_program, Result.andThen_ok]
    exact h1

/-- A load of one cell, whatever the world of which the rows are known. -/
theorem run_load1_at {t : TypeId} {x : Operand} (ho : o.op = .load t x) (hA : At w0 L w) {g off : Nat} (hx : a.eval x = .pointer (some ⟨g, off, none⟩))
    (k : Nat) {te : TypeId} {cs : List Value} (hk : L[k]? = some (g, te, cs)) {v : Value} (hv : cs[off]? = some v) (hn : notRow P t = true) : (execOp a.eval o).run P w = .ok (.value v) w := by
  have hc := (hA.cell hk off).trans hv
  unfold execOp
  simp only [ho, hx, Instr.loadAt, Instr.sureAddr, loadVar, Sem.run_bind, Sem.run_pure, Result.andThen_ok, run_isAgg_no hn w, Bool.false_eq_true, if_false, run_load, hc]
theorem run_load_cell {t : TypeId} {x : Operand} (ho : o.op = .load t x) {ad : Addr} (hx : a.eval x = .pointer (some ad))
    {v : Value} (hv : w.cell? ad = some v) (hn : notRow P t = true) : (execOp a.eval o).run P w = .ok (.value v) w := by
  unfold execOp
  simp only [ho, hx, Instr.loadAt, Instr.sureAddr, loadVar, Sem.run_bind, Sem.run_pure, Result.andThen_ok, run_isAgg_no hn w, Bool.false_eq_true, if_false, run_load, hv]

/-- An element of an array by value. -/
theorem wp_indexArr {K : Act → World → Prop} {t e : TypeId} {x ix : Operand} (ho : o.op = .index t x ix) {n : Nat} (hu : P.underlying t = some (.array n e)) (hn : notRow P e = true) (hs : (P.info? e).map (·.size) = some 1)
    {cs : Array Value} (hx : a.eval x = .agg cs) {kd : IntKind} {k : Nat} (hi : a.eval ix = .int kd (k : Int)) (hk : k < n) {v : Value} (hv : cs[k]? = some v) (h : K (a.put o.dst v) w) : o.wp P a w K Q := by
  have hb : (0 : Int) ≤ (k : Int) ∧ (k : Int) < (n : Int) := by omega
  have hsz : (sizeOf e).run P w = .ok 1 w := by
    cases hi : P.info? e with
    | none => simp [hi] at hs
    | some i =>
      have : i.size = 1 := by simpa [hi] using hs
      simp [sizeOf, typeInfo, hi, this]
  have hp : (part e cs k).run P w = .ok v w := by
    unfold part
    simp [run_isAgg_no hn w, hv]
  unfold Oper.wp execOp
  simp only [ho, hx, hi, Instr.index, asIntOf, Sem.run_bind, Sem.run_pure, Result.andThen_ok, run_underlying hu w, hb, and_self, if_true, hsz, Int.toNat_natCast, Nat.mul_one, hp]
  exact h
theorem at_index {t : TypeId} {x y : Operand} (_ : o.op = .index t x y) (h : wpList P ops Q (o :: rest) a w) : wpList P ops Q (o :: rest) a w := h

theorem wp_load1 {K : Act → World → Prop} {t : TypeId} {x : Operand} (ho : o.op = .load t x) (hA : At w0 L w) {g off : Nat} (hx : a.eval x = .pointer (some ⟨g, off, none⟩))
    (k : Nat) {te : TypeId} {cs : List Value} (hk : L[k]? = some (g, te, cs)) {v : Value} (hv : cs[off]? = some v) (hn : notRow P t = true)
    (h : K (a.put o.dst v) w) : o.wp P a w K Q := by
  have hc := (hA.cell hk off).trans hv
  unfold Oper.wp execOp
  simp only [ho, hx, Instr.loadAt, Instr.sureAddr, loadVar, Sem.run_bind, Sem.run_pure, Result.andThen_ok, run_isAgg_no hn w, Bool.false_eq_true, if_false, run_load, hc]
  exact h

theorem wp_loadOld {K : Act → World → Prop} {t : TypeId} {x : Operand} (ho : o.op = .load t x) {ad : Addr} (hx : a.eval x = .pointer (some ad))
    {v : Value} (hv : w.cell? ad = some v) (hn : notRow P t = true)
    (h : K (a.put o.dst v) w) : o.wp P a w K Q := by
  unfold Oper.wp execOp
  simp only [ho, hx, Instr.loadAt, Instr.sureAddr, loadVar, Sem.run_bind, Sem.run_pure, Result.andThen_ok, run_isAgg_no hn w, Bool.false_eq_true, if_false, run_load, hv]
  exact h

theorem isRow_spec {t : TypeId} {n : Nat} (h : isRow P t n = true) : ∃ d, P.underlying t = some d ∧ d.isRow = true ∧ (P.info? t).map (·.size) = some n := by
  unfold isRow at h
  rw [Bool.and_eq_true] at h
  obtain ⟨h1, h2⟩ := h
  cases hu : P.underlying t with
  | none => simp [hu] at h1
  | some d =>
    refine ⟨d, rfl, ?_, by simpa using h2⟩
    rw [hu] at h1
    cases d <;> simp_all

theorem At.range (hA : At w0 L w) {k g : Nat} {te : TypeId} {cs : List Value} (hk : L[k]? = some (g, te, cs)) (off n : Nat) : w.rangeAt g off ((cs.drop off).take n) := by
  intro j v hj
  rw [hA.cell hk]
  rw [List.getElem?_take] at hj
  split at hj
  · simpa [List.getElem?_drop] using hj
  · cases hj

theorem wp_loadRow {K : Act → World → Prop} {t : TypeId} {x : Operand} (ho : o.op = .load t x) (hA : At w0 L w) {g off : Nat} (hx : a.eval x = .pointer (some ⟨g, off, none⟩))
    (k : Nat) {te : TypeId} {cs : List Value} (hk : L[k]? = some (g, te, cs)) {n : Nat} (hr : isRow P t n = true) (hn : off + n ≤ cs.length)
    (h : K (a.put o.dst (.agg ((cs.drop off).take n).toArray)) w) : o.wp P a w K Q := by
  obtain ⟨d, hu, hd, hi⟩ := isRow_spec hr
  refine wp_load_mid t x ho g off hx ((cs.drop off).take n) d (hA.range hk off n) hu hd ?_ h
  rw [hi, List.length_take, List.length_drop]
  congr 1
  omega

theorem run_loadRow_at {t : TypeId} {x : Operand} (ho : o.op = .load t x) (hA : At w0 L w) {g off : Nat} (hx : a.eval x = .pointer (some ⟨g, off, none⟩))
    (k : Nat) {te : TypeId} {cs : List Value} (hk : L[k]? = some (g, te, cs)) {n : Nat} (hr : isRow P t n = true) (hn : off + n ≤ cs.length) {new : List Value} (he : (cs.drop off).take n = new) :
    (execOp a.eval o).run P w = .ok (.value (.agg new.toArray)) w := by
  subst he
  obtain ⟨d, hu, hd, hi⟩ := isRow_spec hr
  unfold execOp
  simp only [ho, hx, Instr.loadAt, Instr.sureAddr, Sem.run_bind, Sem.run_pure, Result.andThen_ok]
  rw [run_loadVar_mid w g off t _ d (hA.range hk off n) hu hd (by rw [hi, List.length_take, List.length_drop]; congr 1; omega)]
  rfl
theorem wp_store1 {K : Act → World → Prop} {t : TypeId} {x y : Operand} (ho : o.op = .store t x y) (hA : At w0 L w) {g off : Nat} (hx : a.eval x = .pointer (some ⟨g, off, none⟩))
    {v : Value} (hy : a.eval y = v) (k : Nat) {te : TypeId} {cs : List Value} (hk : L[k]? = some (g, te, cs)) (hl : off < cs.length) (hv : v.oneCell' = true) (hs : (P.info? t).map (·.size) = some 1)
    (h : ∀ w', At w0 (L.set k (g, te, cs.set off v)) w' → K (a.put o.dst undef) w') : o.wp P a w K Q := by
  have hrow := hA.row hk
  have hc : (w.cell? ⟨g, off, none⟩) = some cs[off] := (hA.cell hk off).trans (by simp [hl])
  have hf := hA.frozen hk off
  have hset := setCell_eq_setRow w g off _ te (0, 0) v hrow
  have h1 := h _ (hA.put hk (cs.set off v))
  have hcells : v.cells = #[v] := by cases v <;> first | rfl | (simp [Value.oneCell'] at hv)
  have hadd : (⟨g, off, none⟩ : Addr).add 0 = ⟨g, off, none⟩ := by simp [Addr.add]
  unfold Oper.wp execOp
  cases hi : P.info? t with
  | none => simp [hi] at hs
  | some i =>
    have hs' : i.size = 1 := by simpa [hi] using hs
    simp only [ho, hx, hy, Instr.storeAt, Instr.sureAddr, storeVar, sizeOf, typeInfo, hi, hs', hcells, Sem.run_bind, Sem.run_pure, run_program, Result.andThen_ok, List.size_toArray, List.length_cons, List.length_nil, ne_eq, not_true_eq_false, if_false, storeCells, hadd, run_store P w _ v _ hv, hc, hf, Bool.false_eq_true]
    rw [hset]
    simpa [Oper.upon] using h1

theorem wp_storeRow {K : Act → World → Prop} {t : TypeId} {x y : Operand} (ho : o.op = .store t x y) (hA : At w0 L w) {g off : Nat} (hx : a.eval x = .pointer (some ⟨g, off, none⟩))
    {new : Array Value} (hy : a.eval y = .agg new) (k : Nat) {te : TypeId} {cs : List Value} (hk : L[k]? = some (g, te, cs)) (hl : off + new.size ≤ cs.length) (hv : ∀ v ∈ new, v.oneCell' = true) (hs : (P.info? t).map (·.size) = some new.size)
    (h : ∀ w', At w0 (L.set k (g, te, splice cs off new.toList)) w' → K (a.put o.dst undef) w') : o.wp P a w K Q := by
  have hrow := hA.row hk
  have h1 := h _ (hA.put hk (splice cs off new.toList))
  have hst := run_storeCells_at P g off te new.toList 0 _ w hrow (by simpa using hl) (fun v hm => hv v (by simpa using hm))
  unfold Oper.wp execOp
  cases hi : P.info? t with
  | none => simp [hi] at hs
  | some i =>
    have hs' : i.size = new.size := by simpa [hi] using hs
    simp only [ho, hx, hy, Instr.storeAt, Instr.sureAddr, storeVar, sizeOf, typeInfo, hi, hs', Value.cells, Sem.run_bind, Sem.run_pure, run_program, Result.andThen_ok, ne_eq, not_true_eq_false, if_false, hst]
    simpa [splice, Oper.upon] using h1

theorem results_cell {fn : Func} {s : Tmp} {t : TypeId} (h : fn.results = #[.cell s t]) {tmps : Array Value} (hA : At w0 L w) {g : Nat} (hx : tmps.getD s undef = .pointer (some ⟨g, 0, none⟩))
    (k : Nat) {te : TypeId} {cs : List Value} (hk : L[k]? = some (g, te, cs)) (hr : isRow P t cs.length = true) : (results fn tmps).run P w = .ok (.agg cs.toArray) w := by
  obtain ⟨d, hu, hd, hi⟩ := isRow_spec hr
  have h1 := run_loadVar_mid (P := P) w g 0 t cs d (by simpa using hA.range hk 0 cs.length) hu hd hi
  have hx' : tmps[s]?.getD undef = .pointer (some ⟨g, 0, none⟩) := by simpa using hx
  simp [results, h, hx', h1, asAddr]

/-- 'clear' of a slice of a row's cells: zeros. -/
theorem wp_clear {K : Act → World → Prop} {x : Operand} {ts te' : TypeId} (ho : o.op = .call { callee := .builtin .clear, args := #[x], argTypes := #[ts] }) (hA : At w0 L w)
    {A : Option Addr} {g off n c : Nat} (hx : a.eval x = .slice A n c) (hAd : 0 < n → A = some ⟨g, off, none⟩) (hu : P.underlying ts = some (.slice te')) {z : Value} (hz : zeroIs P te' z) (hz1 : z.cells = #[z]) (hzo : z.oneCell' = true)
    (k : Nat) {te : TypeId} {cs : List Value} (hk : L[k]? = some (g, te, cs)) (hl : off + n ≤ cs.length)
    (h : ∀ w', At w0 (L.set k (g, te, splice cs off (List.replicate n z))) w' → K (a.put o.dst (.tuple #[])) w') : o.wp P a w K Q := by
  have hrow := hA.row hk
  have h1 := h _ (hA.put hk (splice cs off (List.replicate n z)))
  have hst := run_storeCells_at P g off te (List.replicate n z) 0 _ w hrow (by simpa using hl) (fun v hm => by rw [List.eq_of_mem_replicate hm]; exact hzo)
  unfold zeroIs at hz
  unfold Oper.wp execOp
  cases hi : P.info? te' with
  | none => simp [hi] at hz
  | some i =>
    have hz' : i.zero = some z := by simpa [hi] using hz
    cases n with
    | zero =>
      have hsame : splice cs off (List.replicate 0 z) = cs := by simp [splice]
      rw [hsame] at h1
      have hself := setRow_self w g _ te (0, 0) hrow
      rw [hself] at h1
      cases A <;>
      simp only [ho, hx, resolve, invoke, builtin, Builtin.clear_, List.map_toArray, List.map_cons, List.map_nil, Sem.run_bind, Sem.run_pure, Result.andThen_ok, run_underlying hu w, List.getElem?_toArray, List.getElem?_cons_zero] <;>
      exact h1
    | succ n =>
      obtain rfl := hAd (by omega)
      have hzc : (Builtin.zeroCells z.cells (n + 1)).toList = List.replicate (n + 1) z := by
        rw [hz1]; simp [Builtin.zeroCells, Nat.mod_one, List.map_const']
      simp only [ho, hx, resolve, invoke, builtin, Builtin.clear_, List.map_toArray, List.map_cons, List.map_nil, Sem.run_bind, Sem.run_pure, run_program, Result.andThen_ok, run_underlying hu w, List.getElem?_toArray, List.getElem?_cons_zero, zeroValue, typeInfo, hi, hz', hzc, hst]
      simpa [splice, Oper.upon] using h1
/-- where a slice's bound stands -/
def boundIs (v : Option Value) (dflt k : Nat) : Prop := (v = none ∧ k = dflt) ∨ ∃ kd, v = some (.int kd (k : Int))
theorem boundIs_none (d : Nat) : boundIs none d d := .inl ⟨rfl, rfl⟩
theorem boundIs_some (kd : IntKind) (d k : Nat) : boundIs (some (.int kd (k : Int))) d k := .inr ⟨kd, rfl⟩
theorem boundIs_int (kd : IntKind) (d k : Nat) (n : Int) (h : n = k) : boundIs (some (.int kd n)) d k := .inr ⟨kd, by rw [h]⟩

theorem run_sliceBound (kd : IntKind) (k y : Nat) (code : BoundsCode) (h : k ≤ y) : (Instr.sliceBound (.int kd (k : Int)) y code).run P w = .ok k w := by
  have h1 : (0 : Int) ≤ (k : Int) ∧ (k : Int) ≤ (y : Int) := by omega
  simp [Instr.sliceBound, asIntOf, h1]
theorem run_sliceBounds (b : Bool) (len cap : Nat) {lo hi : Option Value} {l h : Nat} (hlo : boundIs lo 0 l) (hhi : boundIs hi len h) (h1 : l ≤ h) (h2 : h ≤ cap) :
    (Instr.sliceBounds b len cap lo hi none).run P w = .ok (l, h, cap) w := by
  rcases hlo with ⟨rfl, rfl⟩ | ⟨kd, rfl⟩ <;> rcases hhi with ⟨rfl, rfl⟩ | ⟨kd', rfl⟩ <;>
    simp [Instr.sliceBounds, run_sliceBound, h1, h2]

/-- the address of a part: at the whole length the base's own -/
def sub (A : Option Addr) (l cap size : Nat) : Option Addr := if cap = l then A else A.map (·.add (l * size))

theorem run_sizeOf {t : TypeId} {n : Nat} (h : (P.info? t).map (·.size) = some n) : (sizeOf t).run P w = .ok n w := by
  cases hi : P.info? t with
  | none => simp [hi] at h
  | some i =>
    have : i.size = n := by simpa [hi] using h
    simp [sizeOf, typeInfo, hi, this]

theorem wp_sliceArr {K : Act → World → Prop} {t e : TypeId} {x : Operand} {lo hi : Option Operand} (ho : o.op = .slice t x lo hi none) {n size : Nat} (hu : P.underlying t = some (.array n e))
    (hs : (P.info? e).map (·.size) = some size) {ad : Addr} (hx : a.eval x = .pointer (some ad)) {l h : Nat} (hlo : boundIs (lo.map a.eval) 0 l) (hhi : boundIs (hi.map a.eval) n h) (h1 : l ≤ h) (h2 : h ≤ n)
    (hk : K (a.put o.dst (.slice (sub (some ad) l n size) (h - l) (n - l))) w) : o.wp P a w K Q := by
  unfold Oper.wp execOp
  simp only [ho, hx, Instr.sliceAt, Instr.sureAddr, Sem.run_bind, Sem.run_pure, Result.andThen_ok, run_underlying hu w, run_sliceBounds false n n hlo hhi h1 h2, run_sizeOf hs, Option.map_none]
  have he : some (if n = l then ad else ad.add (l * size)) = sub (some ad) l n size := by unfold sub; split <;> rfl
  rw [he]
  exact hk
theorem sub_lt {g off l cap : Nat} (h : l < cap) : sub (some ⟨g, off, none⟩) l cap 1 = some ⟨g, off + l, none⟩ := by
  unfold sub
  rw [if_neg (by omega)]
  simp [Addr.add_mid]
theorem sub_zero {A : Option Addr} {cap size : Nat} : sub A 0 cap size = A := by
  unfold sub
  split
  · rfl
  · cases A <;> simp [Addr.add]

theorem wp_sliceSl {K : Act → World → Prop} {t e : TypeId} {x : Operand} {lo hi : Option Operand} (ho : o.op = .slice t x lo hi none) {size : Nat} (hu : P.underlying t = some (.slice e))
    (hs : (P.info? e).map (·.size) = some size) {A : Option Addr} {len cap : Nat} (hx : a.eval x = .slice A len cap) {l h : Nat} (hlo : boundIs (lo.map a.eval) 0 l) (hhi : boundIs (hi.map a.eval) len h) (h1 : l ≤ h) (h2 : h ≤ cap)
    (hk : K (a.put o.dst (.slice (sub A l cap size) (h - l) (cap - l))) w) : o.wp P a w K Q := by
  unfold Oper.wp execOp
  simp only [ho, hx, Instr.sliceAt, Instr.slice, Sem.run_bind, Sem.run_pure, Result.andThen_ok, run_underlying hu w, run_sliceBounds true len cap hlo hhi h1 h2, run_sizeOf hs, Option.map_none]
  exact hk

/-! Which operation stands next? Offered 'with_reducible' ahead of a rule, so that an arm fails at once elsewhere. -/
theorem at_box {t : TypeId} {x : Operand} (_ : o.op = .box t x) (h : wpList P ops Q (o :: rest) a w) : wpList P ops Q (o :: rest) a w := h
theorem at_alloc {t : TypeId} (_ : o.op = .alloc t) (h : wpList P ops Q (o :: rest) a w) : wpList P ops Q (o :: rest) a w := h
theorem at_load {t : TypeId} {x : Operand} (_ : o.op = .load t x) (h : wpList P ops Q (o :: rest) a w) : wpList P ops Q (o :: rest) a w := h
theorem at_store {t : TypeId} {x y : Operand} (_ : o.op = .store t x y) (h : wpList P ops Q (o :: rest) a w) : wpList P ops Q (o :: rest) a w := h
theorem at_slice {t : TypeId} {x : Operand} {l h' m : Option Operand} (_ : o.op = .slice t x l h' m) (h : wpList P ops Q (o :: rest) a w) : wpList P ops Q (o :: rest) a w := h
theorem at_bin {b : Builtin} {xs : Array Operand} {ts : Array TypeId} (_ : o.op = .call { callee := .builtin b, args := xs, argTypes := ts }) (h : wpList P ops Q (o :: rest) a w) : wpList P ops Q (o :: rest) a w := h
end

/-! ### Arrays of bytes -/
section
variable {P : Program} {w : World}
def dc (D : List UInt8) : List Value := D.map fun b => .int .u8 b.toNat

theorem run_part {e : TypeId} {cs : Array Value} {i : Nat} {v : Value} (hn : notRow P e = true) (h : cs[i]? = some v) : (part e cs i).run P w = .ok v w := by
  unfold part
  simp [run_isAgg_no hn w, h]

theorem forIn_bytes (f : Nat → Option Bool × Unit → Sem (ForInStep (Option Bool × Unit))) (X Y : List UInt8) (n : Nat) (hX : X.length = n) (hY : Y.length = n)
    (hf : ∀ i (h : i < n), (f i (none, ())).run P w = .ok (if (X[i]'(by omega)) = (Y[i]'(by omega)) then .yield (none, ()) else .done (some false, ())) w) :
    ∀ m k, k + m = n → (forIn (List.range' k m) (none, ()) f).run P w = .ok (if X.drop k = Y.drop k then (none, ()) else (some false, ())) w
  | 0, k, h => by
    have h1 : X.drop k = [] := List.drop_of_length_le (by omega)
    have h2 : Y.drop k = [] := List.drop_of_length_le (by omega)
    simp [h1, h2]
  | m + 1, k, h => by
    have hd1 : X.drop k = X[k]'(by omega) :: X.drop (k + 1) := List.drop_eq_getElem_cons (by omega)
    have hd2 : Y.drop k = Y[k]'(by omega) :: Y.drop (k + 1) := List.drop_eq_getElem_cons (by omega)
    have ih := forIn_bytes f X Y n hX hY hf m (k + 1) (by omega)
    rw [List.range'_succ, List.forIn_cons, Sem.run_bind, hf k (by omega), Result.andThen_ok, hd1, hd2]
    by_cases e : X[k]'(by omega) = Y[k]'(by omega)
    · rw [if_pos e]
      simp only [ih, List.cons.injEq, e, true_and]
    · rw [if_neg e, if_neg (fun h => e (List.cons.inj h).1)]
      rfl

theorem run_equalIn_bytes (d : Nat) (t e : TypeId) (n : Nat) (X Y : List UInt8) (hu : P.underlying t = some (.array n e)) (he : P.underlying e = some (.int .u8)) (hs : (P.info? e).map (·.size) = some 1)
    (hX : X.length = n) (hY : Y.length = n) : (Op.equalIn (d + 2) t (.agg (dc X).toArray) (.agg (dc Y).toArray)).run P w = .ok (decide (X = Y)) w := by
  have hn : notRow P e = true := by simp [notRow, he]
  unfold Op.equalIn
  rw [Sem.run_bind, run_underlying hu w]
  simp only [Result.andThen_ok, Sem.run_bind, run_sizeOf hs]
  simp only [Std.Legacy.Range.forIn_eq_forIn_range', Std.Legacy.Range.size, Nat.sub_zero, Nat.add_one_sub_one, Nat.div_one]
  rw [forIn_bytes _ X Y n hX hY (fun i h => ?_) n 0 (by omega)]
  · simp only [Result.andThen_ok, List.drop_zero]
    by_cases e : X = Y <;> simp [e]
  · have h1 : (dc X).toArray[i * 1]? = some (.int .u8 (X[i]'(by omega)).toNat) := by simp [dc, hX, h]
    have h2 : (dc Y).toArray[i * 1]? = some (.int .u8 (Y[i]'(by omega)).toNat) := by simp [dc, hY, h]
    simp only [Sem.run_bind, run_part hn h1, run_part hn h2, Result.andThen_ok, run_equalIn_int w d e .u8 .u8 _ _ he]
    by_cases e : X[i]'(by omega) = Y[i]'(by omega)
    · simp [e]
    · have : ((X[i]'(by omega)).toNat : Int) ≠ ((Y[i]'(by omega)).toNat : Int) := fun h => e (UInt8.toNat_inj.1 (by omega))
      simp [e, this]

/-- '==' of two arrays of bytes -/
theorem run_eql_bytes (t e : TypeId) (n : Nat) (X Y : List UInt8) (hu : P.underlying t = some (.array n e)) (he : P.underlying e = some (.int .u8)) (hs : (P.info? e).map (·.size) = some 1)
    (hX : X.length = n) (hY : Y.length = n) : (binOp .eql t (.agg (dc X).toArray) (.agg (dc Y).toArray)).run P w = .ok (.bool (decide (X = Y))) w := by
  rw [run_eql_struct, show (10000 : Nat) = 9998 + 2 from rfl, run_equalIn_bytes 9998 t e n X Y hu he hs hX hY]
  rfl
theorem run_neq_bytes (t e : TypeId) (n : Nat) (X Y : List UInt8) (hu : P.underlying t = some (.array n e)) (he : P.underlying e = some (.int .u8)) (hs : (P.info? e).map (·.size) = some 1)
    (hX : X.length = n) (hY : Y.length = n) : (binOp .neq t (.agg (dc X).toArray) (.agg (dc Y).toArray)).run P w = .ok (.bool (!decide (X = Y))) w := by
  rw [run_neq_struct, show (10000 : Nat) = 9998 + 2 from rfl, run_equalIn_bytes 9998 t e n X Y hu he hs hX hY]
  rfl
/-- the whole operation -/
theorem run_op_eql_bytes {o : Oper} {a : Act} {t t' : TypeId} {x y : Operand} (ho : o.op = .binOp .eql t x y t') (e : TypeId) (n : Nat) (X Y : List UInt8) (hx : a.eval x = .agg (dc X).toArray) (hy : a.eval y = .agg (dc Y).toArray)
    (hu : P.underlying t = some (.array n e)) (he : P.underlying e = some (.int .u8)) (hs : (P.info? e).map (·.size) = some 1) (hX : X.length = n) (hY : Y.length = n) (hm : P.eqGuardType P.depth t = false) :
    (execOp a.eval o).run P w = .ok (.value (.bool (decide (X = Y)))) w := by
  unfold execOp
  simp only [ho, hx, hy, Sem.run_bind, run_eqGuard_agg w .eql t x y _ _ hm, Result.andThen_ok, run_eql_bytes t e n X Y hu he hs hX hY, Sem.run_pure]
theorem run_op_neq_bytes {o : Oper} {a : Act} {t t' : TypeId} {x y : Operand} (ho : o.op = .binOp .neq t x y t') (e : TypeId) (n : Nat) (X Y : List UInt8) (hx : a.eval x = .agg (dc X).toArray) (hy : a.eval y = .agg (dc Y).toArray)
    (hu : P.underlying t = some (.array n e)) (he : P.underlying e = some (.int .u8)) (hs : (P.info? e).map (·.size) = some 1) (hX : X.length = n) (hY : Y.length = n) (hm : P.eqGuardType P.depth t = false) :
    (execOp a.eval o).run P w = .ok (.value (.bool (!decide (X = Y)))) w := by
  unfold execOp
  simp only [ho, hx, hy, Sem.run_bind, run_eqGuard_agg w .neq t x y _ _ hm, Result.andThen_ok, run_neq_bytes t e n X Y hu he hs hX hY, Sem.run_pure]
end
end Go.Dk

/- SHA-256 in plain Lean, over natural numbers: what both texts compute. No Go, no program. -/
namespace Go.Dk
def rotr (x n : Nat) : Nat := (x / 2 ^ n) ||| (x * 2 ^ (32 - n) % 4294967296)
def sig0 (x : Nat) : Nat := (rotr x 7 ^^^ rotr x 18) ^^^ (x / 2 ^ 3)
def sig1 (x : Nat) : Nat := (rotr x 17 ^^^ rotr x 19) ^^^ (x / 2 ^ 10)
def Sig0 (x : Nat) : Nat := (rotr x 2 ^^^ rotr x 13) ^^^ rotr x 22
def Sig1 (x : Nat) : Nat := (rotr x 6 ^^^ rotr x 11) ^^^ rotr x 25
def chN (e f g : Nat) : Nat := (e &&& f) ^^^ ((4294967295 ^^^ e) &&& g)
def majN (a b c : Nat) : Nat := ((a &&& b) ^^^ (a &&& c)) ^^^ (b &&& c)
def add32 (a b : Nat) : Nat := (a + b) % 4294967296

/-- the next word of the schedule behind those that there are -/
def wAt (w : List Nat) (i : Nat) : Nat := w[i]?.getD 0
def wNext (w : List Nat) : Nat := add32 (add32 (add32 (wAt w (w.length - 16)) (sig0 (wAt w (w.length - 15)))) (wAt w (w.length - 7))) (sig1 (wAt w (w.length - 2)))
def sched : Nat → List Nat → List Nat
  | 0, w => w
  | n + 1, w => let v := sched n w; v ++ [wNext v]
def word (a b c d : UInt8) : Nat := ((a.toNat * 2 ^ 24 ||| b.toNat * 2 ^ 16) ||| c.toNat * 2 ^ 8) ||| d.toNat
def bAt (bs : List UInt8) (i : Nat) : UInt8 := bs[i]?.getD 0
def words : Nat → List UInt8 → List Nat
  | 0, _ => []
  | n + 1, bs => words n bs ++ [word (bAt bs (4 * n)) (bAt bs (4 * n + 1)) (bAt bs (4 * n + 2)) (bAt bs (4 * n + 3))]

structure St where
  a : Nat
  b : Nat
  c : Nat
  d : Nat
  e : Nat
  f : Nat
  g : Nat
  h : Nat
def St.x (s : St) (k w : Nat) : Nat := add32 (add32 (add32 (add32 s.h (Sig1 s.e)) (chN s.e s.f s.g)) k) w
def St.y (s : St) : Nat := add32 (Sig0 s.a) (majN s.a s.b s.c)
def St.step (s : St) (k w : Nat) : St := ⟨add32 (s.x k w) s.y, s.a, s.b, s.c, add32 s.d (s.x k w), s.e, s.f, s.g⟩
def St.list (s : St) : List Nat := [s.a, s.b, s.c, s.d, s.e, s.f, s.g, s.h]
def St.of (l : List Nat) : St := ⟨wAt l 0, wAt l 1, wAt l 2, wAt l 3, wAt l 4, wAt l 5, wAt l 6, wAt l 7⟩

def ks : List Nat := [
  0x428a2f98, 0x71374491, 0xb5c0fbcf, 0xe9b5dba5, 0x3956c25b, 0x59f111f1, 0x923f82a4, 0xab1c5ed5,
  0xd807aa98, 0x12835b01, 0x243185be, 0x550c7dc3, 0x72be5d74, 0x80deb1fe, 0x9bdc06a7, 0xc19bf174,
  0xe49b69c1, 0xefbe4786, 0x0fc19dc6, 0x240ca1cc, 0x2de92c6f, 0x4a7484aa, 0x5cb0a9dc, 0x76f988da,
  0x983e5152, 0xa831c66d, 0xb00327c8, 0xbf597fc7, 0xc6e00bf3, 0xd5a79147, 0x06ca6351, 0x14292967,
  0x27b70a85, 0x2e1b2138, 0x4d2c6dfc, 0x53380d13, 0x650a7354, 0x766a0abb, 0x81c2c92e, 0x92722c85,
  0xa2bfe8a1, 0xa81a664b, 0xc24b8b70, 0xc76c51a3, 0xd192e819, 0xd6990624, 0xf40e3585, 0x106aa070,
  0x19a4c116, 0x1e376c08, 0x2748774c, 0x34b0bcb5, 0x391c0cb3, 0x4ed8aa4a, 0x5b9cca4f, 0x682e6ff3,
  0x748f82ee, 0x78a5636f, 0x84c87814, 0x8cc70208, 0x90befffa, 0xa4506ceb, 0xbef9a3f7, 0xc67178f2]
def init8 : List Nat := [0x6a09e667, 0xbb67ae85, 0x3c6ef372, 0xa54ff53a, 0x510e527f, 0x9b05688c, 0x1f83d9ab, 0x5be0cd19]

/-- t rounds -/
def rounds (w : List Nat) (s : St) : Nat → St
  | 0 => s
  | t + 1 => (rounds w s t).step (wAt ks t) (wAt w t)
/-- one block taken in -/
def compress (st : List Nat) (bs : List UInt8) : List Nat :=
  (List.range 8).map fun i => add32 (wAt st i) (wAt (rounds (sched 48 (words 16 bs)) (St.of st) 64).list i)
/-- many blocks -/
def blocks : Nat → List Nat → List UInt8 → List Nat
  | 0, st, _ => st
  | n + 1, st, bs => blocks n (compress st (bs.take 64)) (bs.drop 64)
def be (k n : Nat) : List UInt8 := (List.range k).map fun i => UInt8.ofNat (n / 256 ^ (k - 1 - i))
/-- the text, filled up -/
def padding (n : Nat) : List UInt8 := 128 :: List.replicate ((119 - n % 64) % 64) 0 ++ be 8 (8 * n % 18446744073709551616)
def sha (bs : List UInt8) : List UInt8 :=
  let m := bs ++ padding bs.length
  (blocks (m.length / 64) init8 m).flatMap (be 4)
end Go.Dk

/- Slices of bytes: what can be read of them, copies. Plain lemmas over the model; no program. -/
namespace Go.Dk
open Go Go.RowKit
/-! ### Slices of bytes -/
theorem bAt_take {l : List UInt8} {i k : Nat} (h : i < k) : bAt (l.take k) i = bAt l i := by simp [bAt, h]
theorem bAt_drop {l : List UInt8} {i k : Nat} : bAt (l.drop k) i = bAt l (k + i) := by simp [bAt, List.getElem?_drop]
theorem dc_at {l : List UInt8} {i : Nat} (h : i < l.length) : (dc l)[i]? = some (.int .u8 (bAt l i).toNat) := by simp [dc, bAt, h]
theorem dc_append (a b : List UInt8) : dc (a ++ b) = dc a ++ dc b := by simp [dc]
theorem dc_length (a : List UInt8) : (dc a).length = a.length := by simp [dc]
theorem dc_take (a : List UInt8) (k : Nat) : (dc a).take k = dc (a.take k) := by simp [dc]
theorem dc_drop (a : List UInt8) (k : Nat) : (dc a).drop k = dc (a.drop k) := by simp [dc]
theorem dc_one (D : List UInt8) : ∀ v ∈ dc D, v.oneCell' = true := by
  intro v hv
  simp only [dc, List.mem_map] at hv
  obtain ⟨b, _, rfl⟩ := hv
  rfl

/-- The bytes l can be read from the address on. -/
def Bts (w : World) (A : Option Addr) (l : List UInt8) : Prop :=
  l ≠ [] → ∃ b o, A = some ⟨b, o, none⟩ ∧ b < w.heap.size ∧ ∀ i, i < l.length → w.cell? ⟨b, o + i, none⟩ = some (.int .u8 (bAt l i).toNat)
/-- The address lies in another block. -/
def Off (A : Option Addr) (g : Nat) : Prop := ∀ ad, A = some ad → ad.block ≠ g

section
variable {w0 w w' : World} {L : List Row} {A : Option Addr} {l : List UInt8} {g : Nat}
theorem Bts.nil (w : World) (A : Option Addr) : Bts w A [] := fun h => absurd rfl h
theorem Bts.drew (h : Bts w A l) (n : Nat) : Bts (w.drewN n) A l := h
/-- What was there at the start, and is not listed, is there still. -/
theorem Bts.at_ (h : Bts w0 A l) (hA : At w0 L w) (hn : ∀ r ∈ L, Off A r.1) : Bts w A l := fun hne => by
  obtain ⟨b, o, rfl, hb, hc⟩ := h hne
  refine ⟨b, o, rfl, Nat.lt_of_lt_of_le hb hA.size, fun i hi => ?_⟩
  rw [hA.old hb (fun hm => by
    obtain ⟨r, hr, he⟩ := List.mem_map.1 hm
    exact hn r hr _ rfl he.symm)]
  exact hc i hi
theorem Bts.then0 (h : Bts w A l) (hA : At w [] w') : Bts w' A l := h.at_ hA (fun _ hr => by cases hr)
theorem Off.sub {k cap size : Nat} (h : Off A g) : Off (sub A k cap size) g := by
  intro ad he
  unfold Dk.sub at he
  split at he
  · exact h ad he
  · cases A with
    | none => cases he
    | some a =>
      simp only [Option.map_some, Option.some.injEq] at he
      subst he
      have := h a rfl
      unfold Addr.add
      split <;> exact this
theorem Bts.drop (h : Bts w A l) (k : Nat) {cap : Nat} (hc : l.length ≤ cap) : Bts w (sub A k cap 1) (l.drop k) := fun hne => by
  have hk : k < l.length := by
    rcases Nat.lt_or_ge k l.length with h1 | h1
    · exact h1
    · exact absurd (List.drop_eq_nil_iff.2 h1) hne
  obtain ⟨b, o, rfl, hb, hcell⟩ := h (fun e => by rw [e] at hk; exact absurd hk (Nat.not_lt_zero _))
  refine ⟨b, o + k, sub_lt (by omega), hb, fun i hi => ?_⟩
  rw [List.length_drop] at hi
  have := hcell (k + i) (by omega)
  rw [bAt_drop, ← this, Nat.add_assoc]
theorem Bts.take (h : Bts w A l) (k : Nat) : Bts w A (l.take k) := fun hne => by
  obtain ⟨b, o, rfl, hb, hcell⟩ := h (fun e => hne (by rw [e]; simp))
  refine ⟨b, o, rfl, hb, fun i hi => ?_⟩
  rw [List.length_take] at hi
  rw [bAt_take (by omega)]
  exact hcell i (by omega)
theorem Bts.row (hA : At w0 L w) {k : Nat} {t : TypeId} {cs : List Value} (hk : L[k]? = some (g, t, cs)) {o : Nat} (hc : (cs.drop o).take l.length = dc l) : Bts w (some ⟨g, o, none⟩) l := fun _ => by
  refine ⟨g, o, rfl, hA.lt hk, fun i hi => ?_⟩
  rw [hA.cell hk]
  have h1 : ((cs.drop o).take l.length)[i]? = cs[o + i]? := by rw [List.getElem?_take, if_pos hi, List.getElem?_drop]
  rw [← h1, hc, dc_at hi]
end

section
variable {P : Program} {ops : Array Oper} {Q : Exit → Act → World → Prop} {a : Act} {w0 w : World} {L : List Row} {rest : List Oper} {o : Oper}
/-- 'copy' onto a row, from bytes that can be read. -/
theorem run_copy_bytes {x y : Operand} {tx ty e : TypeId} (ho : o.op = .call { callee := .builtin .copy, args := #[x, y], argTypes := #[tx, ty] }) (hA : At w0 L w)
    (hu : P.underlying tx = some (.slice e)) (hs : (P.info? e).map (·.size) = some 1) {D A : Option Addr} {dLen dc' sLen sc : Nat} (hx : a.eval x = .slice D dLen dc') (hy : a.eval y = .slice A sLen sc)
    {l : List UInt8} (hl : l.length = Nat.min sLen dLen) (hr : Bts w A l) {g off k : Nat} {te : TypeId} {cs : List Value} (hk : L[k]? = some (g, te, cs)) (hD : 0 < l.length → D = some ⟨g, off, none⟩) (hfit : off + l.length ≤ cs.length) :
    ∃ w', (execOp a.eval o).run P w = .ok (.value (.int .i64 (l.length : Nat))) w' ∧ At w0 (L.set k (g, te, splice cs off (dc l))) w' := by
  have hrow := hA.row hk
  have hsz := run_sizeOf (w := w) hs
  by_cases hne : l = []
  · subst hne
    have hsame : splice cs off (dc []) = cs := by simp [splice, dc]
    have hput := hA.put hk (splice cs off (dc []))
    rw [hsame] at hput
    have hself := setRow_self w g _ te (0, 0) hrow
    rw [hself] at hput
    refine ⟨w, ?_, by rw [hsame]; exact hput⟩
    have h0 : Nat.min sLen dLen = 0 := hl.symm
    unfold execOp
    cases A <;> cases D <;>
    simp [ho, hx, hy, resolve, invoke, builtin, Builtin.copy_, run_underlying hu w, Builtin.lenOf, Builtin.firstCells, hsz, h0, storeCells, loadCells, loadCellsFrom, goInt]
  · obtain ⟨b, o', rfl, hb, hcell⟩ := hr hne
    have hpos : 0 < l.length := List.length_pos_iff.2 hne
    obtain rfl := hD hpos
    refine ⟨_, ?_, hA.put hk (splice cs off (dc l))⟩
    have hl' := run_loadCells_list (P := P) w ⟨b, o', none⟩ (dc l) (fun j v hj => by
      rw [Addr.add_mid]
      have hjl : j < l.length := by
        have := (List.getElem?_eq_some_iff.1 hj).1
        rwa [dc_length] at this
      rw [dc_at hjl] at hj
      rw [hcell j hjl, ← hj])
    have hst := run_storeCells_at P g off te (dc l) 0 _ w hrow (by rw [dc_length]; simpa using hfit) (dc_one l)
    rw [dc_length] at hl'
    unfold execOp
    simp only [ho, hx, hy, resolve, invoke, builtin, Builtin.copy_, Builtin.lenOf, Builtin.firstCells, List.map_toArray, List.map_cons, List.map_nil, Sem.run_bind, Sem.run_pure, Result.andThen_ok, run_underlying hu w, List.getElem?_toArray, List.getElem?_cons_zero,
      List.getElem?_cons_succ, hsz, ← hl, Nat.mul_one, hl', hst, goInt]
    simp [splice]
theorem wp_copy {K : Act → World → Prop} {x y : Operand} {tx ty e : TypeId} (ho : o.op = .call { callee := .builtin .copy, args := #[x, y], argTypes := #[tx, ty] }) (hA : At w0 L w)
    (hu : P.underlying tx = some (.slice e)) (hs : (P.info? e).map (·.size) = some 1) {D A : Option Addr} {dLen dc' sLen sc : Nat} (hx : a.eval x = .slice D dLen dc') (hy : a.eval y = .slice A sLen sc)
    {l : List UInt8} (hl : l.length = Nat.min sLen dLen) (hr : Bts w A l) {g off : Nat} (k : Nat) {te : TypeId} {cs : List Value} (hk : L[k]? = some (g, te, cs)) (hD : 0 < l.length → D = some ⟨g, off, none⟩) (hfit : off + l.length ≤ cs.length)
    (h : ∀ w', At w0 (L.set k (g, te, splice cs off (dc l))) w' → K (a.put o.dst (.int .i64 (l.length : Nat))) w') : o.wp P a w K Q := by
  obtain ⟨w', h1, h2⟩ := run_copy_bytes ho hA hu hs hx hy hl hr hk hD hfit
  unfold Oper.wp
  rw [h1]
  exact h w' h2
theorem at_build {t : TypeId} {ps : Array (Nat × Operand)} (_ : o.op = .build t ps) (h : wpList P ops Q (o :: rest) a w) : wpList P ops Q (o :: rest) a w := h
theorem wp_build {K : Act → World → Prop} {t : TypeId} {ps : Array (Nat × Operand)} (ho : o.op = .build t ps) {v : Value} (hr : (Instr.build t (ps.map fun (i, x) => (i, a.eval x))).run P w = .ok v w) (h : K (a.put o.dst v) w) : o.wp P a w K Q := by
  unfold Oper.wp execOp
  simp only [ho, Sem.run_bind, hr, Result.andThen_ok, Sem.run_pure]
  exact h
theorem run_sliceArr {t e : TypeId} {x : Operand} {lo hi : Option Operand} (ho : o.op = .slice t x lo hi none) {n size : Nat} (hu : P.underlying t = some (.array n e))
    (hs : (P.info? e).map (·.size) = some size) {ad : Addr} (hx : a.eval x = .pointer (some ad)) (l h : Nat) (hlo : boundIs (lo.map a.eval) 0 l) (hhi : boundIs (hi.map a.eval) n h) (h1 : l ≤ h) (h2 : h ≤ n)
    {v : Value} (hv : Value.slice (sub (some ad) l n size) (h - l) (n - l) = v) : (execOp a.eval o).run P w = .ok (.value v) w := by
  subst hv
  unfold execOp
  simp only [ho, hx, Instr.sliceAt, Instr.sureAddr, Sem.run_bind, Sem.run_pure, Result.andThen_ok, run_underlying hu w, run_sliceBounds false n n hlo hhi h1 h2, run_sizeOf hs, Option.map_none]
  have he : some (if n = l then ad else ad.add (l * size)) = sub (some ad) l n size := by unfold sub; split <;> rfl
  rw [he]
theorem run_sliceSl {t e : TypeId} {x : Operand} {lo hi : Option Operand} (ho : o.op = .slice t x lo hi none) {size : Nat} (hu : P.underlying t = some (.slice e))
    (hs : (P.info? e).map (·.size) = some size) {A : Option Addr} {len cap : Nat} (hx : a.eval x = .slice A len cap) (l h : Nat) (hlo : boundIs (lo.map a.eval) 0 l) (hhi : boundIs (hi.map a.eval) len h) (h1 : l ≤ h) (h2 : h ≤ cap)
    {v : Value} (hv : Value.slice (sub A l cap size) (h - l) (cap - l) = v) : (execOp a.eval o).run P w = .ok (.value v) w := by
  subst hv
  unfold execOp
  simp only [ho, hx, Instr.sliceAt, Instr.slice, Sem.run_bind, Sem.run_pure, Result.andThen_ok, run_underlying hu w, run_sliceBounds true len cap hlo hhi h1 h2, run_sizeOf hs, Option.map_none]
  rfl
/-- for a loop's measure -/
def lenV : Value → Nat
  | .slice _ n _ => n
  | _ => 0
end
end Go.Dk

/- Regions that draw their order: one plan (a list of the operations' numbers) serves every order, where what is taken out of turn only reads, and what it reads is kept by whatever may come before it. Plain lemmas over the model; no program. -/
namespace Go.Dk
open Go
section
variable {P : Program} {ops : Array Oper} {Q : Exit → Act → World → Prop} {md : Region.Mode} {S : World → Prop} {n : Nat}

/-- Does j wait for i, by an edge of its own? -/
def direct (md : Region.Mode) (ops : Array Oper) (j i : Nat) : Bool :=
  match ops[j]? with
  | none => false
  | some o => o.after.any fun e => Region.binds md e && e.on == i

/-- Each of the first n is waited for by a later one, number n at most. -/
def sinks (md : Region.Mode) (ops : Array Oper) (n : Nat) : Bool :=
  (List.range n).all fun i => (List.range (n + 1)).any fun j => decide (i < j) && direct md ops j i

/-- The tail: each waits for the one ahead of it. -/
def chained (md : Region.Mode) (ops : Array Oper) (n : Nat) : Bool :=
  (List.range (ops.size - n)).all fun k => k == 0 || direct md ops (n + k) (n + k - 1)

/-- Whatever is listed, all that it waits for is listed. -/
def Closed (md : Region.Mode) (ops : Array Oper) (listed : Array Bool) : Prop :=
  ∀ j i, listed.getD j false = true → direct md ops j i = true → listed.getD i false = true

theorem direct_spec {j i : Nat} (h : direct md ops j i = true) : ∃ o, ops[j]? = some o ∧ ∃ e ∈ o.after, Region.binds md e = true ∧ e.on = i := by
  unfold direct at h
  cases ho : ops[j]? with
  | none => simp [ho] at h
  | some o =>
    simp only [ho] at h
    obtain ⟨e, he, hb⟩ := Array.any_eq_true'.1 h
    simp only [Bool.and_eq_true, beq_iff_eq] at hb
    exact ⟨o, rfl, e, he, hb.1, hb.2⟩

theorem ready_direct {j i : Nat} {listed : Array Bool} (hj : j ∈ Region.ready md ops listed) (h : direct md ops j i = true) : listed.getD i false = true := by
  obtain ⟨_, o, ho, hall⟩ := mem_ready.1 hj
  obtain ⟨o', ho', e, he, hb, rfl⟩ := direct_spec h
  rw [ho] at ho'
  injection ho' with ho'
  subst ho'
  exact hall e he hb

theorem getD_set {listed : Array Bool} {i j : Nat} (h : (listed.setIfInBounds i true).getD j false = true) : j = i ∨ listed.getD j false = true := by
  by_cases e : i = j
  · exact .inl e.symm
  · rw [getD_set_ne false e] at h; exact .inr h

theorem Closed.set {i : Nat} {listed : Array Bool} (h : Closed md ops listed) (hi : i ∈ Region.ready md ops listed) : Closed md ops (listed.setIfInBounds i true) := by
  intro j k hj hd
  rcases getD_set hj with rfl | hj
  · exact getD_set_true (ready_direct hi hd)
  · exact getD_set_true (h j k hj hd)

theorem getD_false_of_unlisted {listed : Array Bool} {i : Nat} (h : listed.getD i true = false) : listed.getD i false = false := by
  rcases Nat.lt_or_ge i listed.size with hlt | hge
  · simpa [hlt] using h
  · simp [Array.getElem?_eq_none hge] at h

/-- A tail's operation comes up only when the whole head is listed. -/
theorem head_listed (hs : sinks md ops n = true) (hc : chained md ops n = true) {listed : Array Bool} (hcl : Closed md ops listed) {j : Nat} (hjn : n ≤ j) (hj : j ∈ Region.ready md ops listed) :
    ∀ i, i < n → listed.getD i false = true := by
  have hjs : j < ops.size := by
    obtain ⟨_, o, ho, _⟩ := mem_ready.1 hj
    exact (Array.getElem?_eq_some_iff.1 ho).1
  have step : ∀ k, n ≤ k → k + 1 < ops.size → direct md ops (k + 1) k = true := fun k hk hlt => by
    have h1 := List.all_eq_true.1 hc (k + 1 - n) (by simp; omega)
    simp only [Bool.or_eq_true, beq_iff_eq] at h1
    rcases h1 with h1 | h1
    · omega
    · rw [show n + (k + 1 - n) = k + 1 by omega] at h1
      exact h1
  -- all between n and j - 1 are listed; and n is ready or listed
  have down : ∀ d k, n ≤ k → k < j → j - k = d → listed.getD k false = true := by
    intro d
    induction d using Nat.strongRecOn with
    | _ d ih =>
      intro k hk hkj hd
      by_cases e : k + 1 = j
      · subst e; exact ready_direct hj (step k hk hjs)
      · exact hcl (k + 1) k (ih (j - (k + 1)) (by omega) (k + 1) (by omega) (by omega) rfl) (step k hk (by omega))
  have nok : ∀ i, direct md ops n i = true → listed.getD i false = true := fun i hi => by
    by_cases e : j = n
    · subst e; exact ready_direct hj hi
    · exact hcl n i (down (j - n) n (Nat.le_refl _) (by omega) rfl) hi
  intro i hi
  have main : ∀ d i, i < n → n - i = d → listed.getD i false = true := by
    intro d
    induction d using Nat.strongRecOn with
    | _ d ih =>
      intro i hi hd
      have h1 := List.all_eq_true.1 hs i (by simpa using hi)
      obtain ⟨k, hk, h2⟩ := List.any_eq_true.1 h1
      simp only [Bool.and_eq_true, decide_eq_true_eq] at h2
      simp only [List.mem_range] at hk
      by_cases e : k = n
      · subst e; exact nok i h2.2
      · exact hcl k i (ih (n - k) (by omega) k (by omega) rfl) h2.2
  exact main (n - i) i hi rfl

/-- Whatever order is picked from here on; S holds behind every operation of the head that is carried out. -/
def wpAnyT (P : Program) (md : Region.Mode) (ops : Array Oper) (Q : Exit → Act → World → Prop) (S : World → Prop) (n : Nat) : Nat → Array Bool → Act → World → Prop
  | 0, listed, a, w => Region.ready md ops listed = [] ∧ Q .normal a w
  | fuel + 1, listed, a, w =>
    (Region.ready md ops listed = [] → Q .normal a w) ∧
    ∀ i ∈ Region.ready md ops listed, wpOp P ops Q i (fun a' w' => (i < n → S w') ∧ wpAnyT P md ops Q S n fuel (listed.setIfInBounds i true) a' w') a w

theorem wpAny_of_T : ∀ (fuel : Nat) (listed : Array Bool) (a : Act) (w : World), wpAnyT P md ops Q S n fuel listed a w → wpAny P md ops Q fuel listed a w
  | 0, _, _, _, h => h
  | fuel + 1, _, _, _, h => ⟨h.1, fun i hi => wpOp_mono (fun a' w' h' => wpAny_of_T fuel _ a' w' h'.2) (h.2 i hi)⟩

theorem wpAnyT_first {i : Nat} {oi : Oper} {v : Value} (hs : sinks md ops n = true) (hc : chained md ops n = true) (hin : i < n) (hi : ops[i]? = some oi)
    (hsel : ∀ (j : Nat) (o : Oper) cs b, ops[j]? = some o → o.op ≠ .select cs b)
    (hQ : ∀ c a w, Q (.panic c) (a.put oi.dst v) w → Q (.panic c) a w) :
    ∀ (fuel : Nat) (listed : Array Bool) (a : Act) (w : World), Closed md ops listed →
      (∀ j oj, ops[j]? = some oj → j ≠ i → listed.getD j true = false → (∀ e ∈ oj.after, Region.binds md e = true → e.on ≠ i) → oi.apart ops oj = true) →
      i ∈ Region.ready md ops listed → YieldsIf P ops S oi v a → S w →
      wpAnyT P md ops Q S n fuel (listed.setIfInBounds i true) (a.put oi.dst v) w → wpAnyT P md ops Q S n (fuel + 1) listed a w := by
  intro fuel
  induction fuel with
  | zero =>
    intro listed a w _ _ hr hy hS H
    refine ⟨fun h => (by rw [h] at hr; cases hr), fun j hj => ?_⟩
    by_cases hji : j = i
    · subst hji; exact hy.wpOp hi hS ⟨fun _ => hS, H⟩
    · have := ready_mono hj hji
      rw [H.1] at this
      cases this
  | succ fuel ih =>
    intro listed a w hcl hfree hr hy hS H
    refine ⟨fun h => (by rw [h] at hr; cases hr), fun j hj => ?_⟩
    by_cases hji : j = i
    · subst hji; exact hy.wpOp hi hS ⟨fun _ => hS, H⟩
    · have hjn : j < n := by
        rcases Nat.lt_or_ge j n with h | h
        · exact h
        · have h1 := head_listed hs hc hcl h hj i hin
          have h2 := getD_false_of_unlisted (mem_ready.1 hr).1
          rw [h1] at h2; cases h2
      have h1 := H.2 j (ready_mono hj hji)
      obtain ⟨hjun, oj, hoj, hall⟩ := mem_ready.1 hj
      have hnot : ∀ e ∈ oj.after, Region.binds md e = true → e.on ≠ i := fun e he hb heq => by
        have h1 := hall e he hb
        have h0 := getD_false_of_unlisted (mem_ready.1 hr).1
        rw [heq, h0] at h1
        cases h1
      have h2 := wpOp_putIf hoj (hfree j oj hoj hji hjun hnot) (fun cs b => hsel i oi cs b hi) (fun cs b => hsel j oj cs b hoj) hQ hy h1
      have hfree' : ∀ k ok, ops[k]? = some ok → k ≠ i → (listed.setIfInBounds j true).getD k true = false →
          (∀ e ∈ ok.after, Region.binds md e = true → e.on ≠ i) → oi.apart ops ok = true := fun k ok hk hki hun hno => by
        refine hfree k ok hk hki ?_ hno
        by_cases hjk : j = k
        · subst hjk; exact hjun
        · rw [getD_set_ne true hjk] at hun; exact hun
      refine wpOp_mono (fun a' w' h3 => ⟨h3.2.1, ih (listed.setIfInBounds j true) a' w' (hcl.set hj) hfree' (ready_mono hr (Ne.symm hji)) h3.1 (h3.2.1 hjn) ?_⟩) h2
      rw [Array.setIfInBounds_comm _ _ hji]
      exact h3.2.2

/-- A plan: the numbers in an order; those that are not loud are taken out of turn. -/
def planB (md : Region.Mode) (ops : Array Oper) (n : Nat) (loud : List Nat) : List Nat → Array Bool → Bool
  | [], listed => (Region.ready md ops listed).isEmpty
  | i :: rest, listed =>
    (Region.ready md ops listed).contains i &&
    (if loud.contains i then Region.ready md ops listed == [i] && (decide (i < n) || rest.all loud.contains)
     else decide (i < n) && Region.free md ops listed i) &&
    planB md ops n loud rest (listed.setIfInBounds i true)

def planOK (md : Region.Mode) (ops : Array Oper) (n : Nat) (loud order : List Nat) : Bool :=
  Region.noSelect ops && sinks md ops n && chained md ops n && order.length == ops.size && planB md ops n loud order (Array.replicate ops.size false)

def wpPlan (P : Program) (ops : Array Oper) (Q : Exit → Act → World → Prop) (S : World → Prop) (n : Nat) (loud : List Nat) : List Nat → Act → World → Prop
  | [], a, w => Q .normal a w
  | i :: rest, a, w =>
    match ops[i]? with
    | none => False
    | some o =>
      if loud.contains i then wpOp P ops Q i (fun a' w' => (i < n → S w') ∧ wpPlan P ops Q S n loud rest a' w') a w
      else if Region.wanted o (yielded ops a.tmps) then ∃ v, (∀ x, S x → (execOp a.eval o).run P x = .ok (.value v) x) ∧ wpPlan P ops Q S n loud rest (a.put o.dst v) w
      else wpPlan P ops Q S n loud rest (a.put o.dst undef) w

theorem plan_sound {loud : List Nat} (hsel : Region.noSelect ops = true) (hs : sinks md ops n = true) (hc : chained md ops n = true) (hQ : ∀ c a w, ¬ Q (.panic c) a w) :
    ∀ (order : List Nat) (listed : Array Bool) (a : Act) (w : World), planB md ops n loud order listed = true → Closed md ops listed → ((order.all loud.contains) = false → S w) →
      wpPlan P ops Q S n loud order a w → wpAnyT P md ops Q S n order.length listed a w
  | [], listed, a, w, hB, _, _, h => ⟨by simpa [planB] using hB, h⟩
  | i :: rest, listed, a, w, hB, hcl, hS, h => by
    simp only [planB, Bool.and_eq_true] at hB
    obtain ⟨⟨hr, hk⟩, hB'⟩ := hB
    have hr' : i ∈ Region.ready md ops listed := by simpa using hr
    simp only [wpPlan] at h
    cases ho : ops[i]? with
    | none => simp [ho] at h
    | some o =>
      simp only [ho] at h
      by_cases hl : loud.contains i = true
      · rw [if_pos hl] at h hk
        simp only [Bool.and_eq_true, beq_iff_eq, Bool.or_eq_true, decide_eq_true_eq] at hk
        refine ⟨fun h0 => (by rw [h0] at hr'; cases hr'), fun j hj => ?_⟩
        rw [hk.1] at hj
        simp only [List.mem_singleton] at hj
        subst hj
        refine wpOp_mono (fun a' w' h' => ⟨h'.1, plan_sound hsel hs hc hQ rest _ a' w' hB' (hcl.set hr') (fun hq => ?_) h'.2⟩) h
        rcases hk.2 with h2 | h2
        · exact h'.1 h2
        · rw [h2] at hq; cases hq
      · have hl' : loud.contains i = false := by simpa using hl
        rw [if_neg hl] at h hk
        simp only [Bool.and_eq_true, decide_eq_true_eq] at hk
        have hSw : S w := hS (by simp only [List.all_cons, hl', Bool.false_and])
        have hrest : (rest.all loud.contains) = false → S w := fun _ => hSw
        by_cases hw : Region.wanted o (yielded ops a.tmps) = true
        · rw [if_pos hw] at h
          obtain ⟨v, h1, h2⟩ := h
          exact wpAnyT_first (v := v) hs hc hk.1 ho (Region.noSelect_spec hsel) (fun c a w hp => (hQ _ _ _ hp).elim) rest.length listed a w hcl (Region.free_spec ho hk.2) hr' (.inl ⟨hw, h1⟩) hSw
            (plan_sound hsel hs hc hQ rest _ _ w hB' (hcl.set hr') hrest h2)
        · rw [if_neg hw] at h
          exact wpAnyT_first (v := undef) hs hc hk.1 ho (Region.noSelect_spec hsel) (fun c a w hp => (hQ _ _ _ hp).elim) rest.length listed a w hcl (Region.free_spec ho hk.2) hr' (.inr ⟨by simpa using hw, rfl⟩) hSw
            (plan_sound hsel hs hc hQ rest _ _ w hB' (hcl.set hr') hrest h)

/-- What is asked behind a region: it ends as a region does, or the process has outgrown its memory. -/
def Ends (Q : Exit → Act → World → Prop) : Exit → Act → World → Prop
  | .normal, a, w => Q .normal a w
  | .outgrown, a, w => Q .outgrown a w
  | _, _, _ => False

theorem closed_none (m : Nat) : Closed md ops (Array.replicate m false) := by
  intro j i h
  exfalso
  rcases Nat.lt_or_ge j m with hj | hj
  · simp [hj] at h
  · simp [hj] at h

/-- ONE PLAN SERVES EVERY ORDER. -/
theorem wp_region_plan {id : Nat} {a : Act} {w : World} {l : List Oper} (n : Nat) (loud order : List Nat) (S : World → Prop) (hm : P.follows .mixedOrders = true) (hB : planOK .any l.toArray n loud order = true)
    (hS : S w.drew) (h : wpPlan P l.toArray (Ends Q) S n loud order a w.drew) : (Code.region id l.toArray true).wp P Q a w := by
  simp only [planOK, Bool.and_eq_true, beq_iff_eq] at hB
  obtain ⟨⟨⟨⟨h1, h2⟩, h3⟩, h4⟩, h5⟩ := hB
  have h6 := plan_sound (P := P) (Q := Ends Q) h1 h2 h3 (fun _ _ _ hp => hp) order _ a w.drew h5 (closed_none _) (fun _ => hS) h
  rw [h4] at h6
  exact Code.wp_mono (fun e a w q => by cases e <;> first | exact q | exact q.elim) (wp_region_any hm (wpAny_of_T _ _ _ _ h6))

section steps
variable {loud rest : List Nat} {i : Nat} {o : Oper} {a : Act} {w : World}
theorem plan_end (h : Q .normal a w) : wpPlan P ops (Ends Q) S n loud [] a w := h
theorem plan_q (ho : ops[i]? = some o) (hl : loud.contains i = false) (hw : Region.wanted o (yielded ops a.tmps) = true) (v : Value) (hrun : ∀ x, S x → (execOp a.eval o).run P x = .ok (.value v) x)
    (h : wpPlan P ops Q S n loud rest (a.put o.dst v) w) : wpPlan P ops Q S n loud (i :: rest) a w := by
  simp only [wpPlan, ho, hl, Bool.false_eq_true, if_false, hw, if_true]
  exact ⟨v, hrun, h⟩
/-- by the walk's own simp: what is yielded is found by running it in whatever world -/
theorem plan_pure (ho : ops[i]? = some o) (hl : loud.contains i = false)
    (h : ∀ K : Act → Prop, (∀ a', wpPlan P ops Q S n loud rest a' w → K a') → if Region.wanted o (yielded ops a.tmps) then (∃ v, (∀ x : { x // S x }, (execOp a.eval o).run P x.1 = .ok (.value v) x.1) ∧ K (a.put o.dst v)) else K (a.put o.dst undef)) :
    wpPlan P ops Q S n loud (i :: rest) a w := by
  simp only [wpPlan, ho, hl, Bool.false_eq_true, if_false]
  have h1 := h _ (fun _ h => h)
  split
  · rename_i hw
    rw [if_pos hw] at h1
    obtain ⟨v, h2, h3⟩ := h1
    exact ⟨v, fun x hx => h2 ⟨x, hx⟩, h3⟩
  · rename_i hw
    rw [if_neg hw] at h1
    exact h1
theorem plan_l (ho : ops[i]? = some o) (hl : loud.contains i = true) (hw : Region.wanted o (yielded ops a.tmps) = true)
    (h : ∀ K : Act → World → Prop, (∀ a' w', (i < n → S w') → wpPlan P ops Q S n loud rest a' w' → K a' w') → o.wp P a w K Q) : wpPlan P ops Q S n loud (i :: rest) a w := by
  simp only [wpPlan, ho, hl, if_true, wpOp, hw]
  exact .inl (h _ (fun _ _ h1 h2 => ⟨h1, h2⟩))
end steps
end
end Go.Dk

/- What a hasher holds when it has taken a text; blocks; plain laws. -/
namespace Go.Dk
open Go
theorem add32_lt (a b : Nat) : add32 a b < 4294967296 := Nat.mod_lt _ (by decide)
theorem compress_length (st : List Nat) (bs : List UInt8) : (compress st bs).length = 8 := by simp [compress]
theorem compress_lt (st : List Nat) (bs : List UInt8) : ∀ x ∈ compress st bs, x < 4294967296 := by
  intro x hx
  simp only [compress, List.mem_map] at hx
  obtain ⟨i, _, rfl⟩ := hx
  exact add32_lt _ _
theorem blocks_length (n : Nat) (st : List Nat) (bs : List UInt8) (h : st.length = 8) : (blocks n st bs).length = 8 := by
  induction n generalizing st bs with
  | zero => exact h
  | succ n ih => exact ih _ _ (compress_length _ _)
theorem blocks_lt (n : Nat) (st : List Nat) (bs : List UInt8) (h : ∀ x ∈ st, x < 4294967296) : ∀ x ∈ blocks n st bs, x < 4294967296 := by
  induction n generalizing st bs with
  | zero => exact h
  | succ n ih => exact ih _ _ (compress_lt _ _)
theorem blocks_end (n : Nat) (st : List Nat) (bs : List UInt8) : blocks (n + 1) st bs = compress (blocks n st bs) ((bs.drop (64 * n)).take 64) := by
  induction n generalizing st bs with
  | zero => simp [blocks]
  | succ n ih =>
    have h1 : blocks (n + 1 + 1) st bs = blocks (n + 1) (compress st (bs.take 64)) (bs.drop 64) := rfl
    have h2 : blocks (n + 1) st bs = blocks n (compress st (bs.take 64)) (bs.drop 64) := rfl
    rw [h1, ih, h2, List.drop_drop, show 64 + 64 * n = 64 * (n + 1) by omega]
theorem blocks_prefix (n : Nat) (st : List Nat) (a b : List UInt8) (h : 64 * n ≤ a.length) : blocks n st (a ++ b) = blocks n st a := by
  induction n generalizing st a with
  | zero => rfl
  | succ n ih =>
    show blocks n (compress st ((a ++ b).take 64)) ((a ++ b).drop 64) = blocks n (compress st (a.take 64)) (a.drop 64)
    rw [List.take_append_of_le_length (by omega), List.drop_append_of_le_length (by omega)]
    exact ih _ _ (by simp; omega)
theorem init8_length : init8.length = 8 := rfl
theorem init8_lt : ∀ x ∈ init8, x < 4294967296 := by decide

def wc (l : List Nat) : List Value := l.map fun x : Nat => Value.int .u32 (x : Int)
theorem wc_length (l : List Nat) : (wc l).length = l.length := by simp [wc]
theorem wc_at {l : List Nat} {i : Nat} (h : i < l.length) : (wc l)[i]? = some (.int .u32 (wAt l i : Nat)) := by simp [wc, wAt, h]

/-- a hasher's cells -/
def hcells (st : List Nat) (rest : List UInt8) (n : Nat) : List Value := wc st ++ (dc rest ++ [.int .u64 (n : Int)])
section
variable {st st' : List Nat} {rest rest' : List UInt8} {n n' : Nat}
theorem hcells_length (h : st.length = 8) (h' : rest.length = 64) : (hcells st rest n).length = 73 := by simp [hcells, wc_length, dc_length, h, h']
theorem hcells_n (h : st.length = 8) (h' : rest.length = 64) : (hcells st rest n)[72]? = some (.int .u64 (n : Int)) := by
  unfold hcells
  rw [List.getElem?_append_right (by rw [wc_length, h]; decide), wc_length, h, List.getElem?_append_right (by rw [dc_length, h']; decide), dc_length, h']
  rfl
theorem hcells_set_n (h : st.length = 8) (h' : rest.length = 64) : (hcells st rest n).set 72 (.int .u64 (n' : Int)) = hcells st rest n' := by
  unfold hcells
  rw [List.set_append, if_neg (by rw [wc_length, h]; decide), wc_length, h, List.set_append, if_neg (by rw [dc_length, h']; decide), dc_length, h']
  rfl
theorem hcells_st (h : st.length = 8) : ((hcells st rest n).drop 0).take 8 = wc st := by
  unfold hcells
  rw [List.drop_zero, List.take_append_of_le_length (by rw [wc_length, h]; decide), List.take_of_length_le (by rw [wc_length, h]; decide)]
theorem hcells_put_st (h : st.length = 8) (h2 : st'.length = 8) : splice (hcells st rest n) 0 (wc st') = hcells st' rest n := by
  unfold splice hcells
  rw [wc_length, h2, List.take_zero, List.nil_append, Nat.zero_add, List.drop_append_of_le_length (by rw [wc_length, h]; decide), List.drop_of_length_le (by rw [wc_length, h]; decide), List.nil_append]
theorem hcells_st_at (h : st.length = 8) {i : Nat} (hi : i < 8) : (hcells st rest n)[0 + i]? = some (.int .u32 (wAt st i : Nat)) := by
  unfold hcells
  rw [Nat.zero_add, List.getElem?_append_left (by rw [wc_length, h]; exact hi), wc_at (by rw [h]; exact hi)]
theorem hcells_rest (h : st.length = 8) (h' : rest.length = 64) : ((hcells st rest n).drop 8).take rest.length = dc rest := by
  unfold hcells
  rw [List.drop_append_of_le_length (by rw [wc_length, h]; decide), List.drop_of_length_le (by rw [wc_length, h]; decide), List.nil_append, List.take_append_of_le_length (by rw [dc_length, h']; decide), List.take_of_length_le (by rw [dc_length]; exact Nat.le_refl _)]
/-- bytes written into the rest -/
def put (rest : List UInt8) (o : Nat) (l : List UInt8) : List UInt8 := rest.take o ++ l ++ rest.drop (o + l.length)
theorem put_length {o : Nat} {l : List UInt8} (h : o + l.length ≤ rest.length) : (put rest o l).length = rest.length := by simp [put]; omega
theorem hcells_put {o : Nat} {l : List UInt8} (h : st.length = 8) (h' : rest.length = 64) (hl : o + l.length ≤ 64) : splice (hcells st rest n) (8 + o) (dc l) = hcells st (put rest o l) n := by
  unfold splice hcells put
  rw [dc_append, dc_append, dc_length]
  rw [List.take_append, wc_length, h, show 8 + o - 8 = o by omega, List.take_of_length_le (by rw [wc_length, h]; omega), List.take_append_of_le_length (by rw [dc_length, h']; omega), dc_take]
  rw [List.drop_append, wc_length, h, List.drop_of_length_le (by rw [wc_length, h]; omega), List.nil_append, show 8 + o + l.length - 8 = o + l.length by omega, List.drop_append_of_le_length (by rw [dc_length, h']; omega), dc_drop]
  simp only [List.append_assoc]
end

/-- a hasher that has taken m -/
def HS (m : List UInt8) (cs : List Value) : Prop :=
  ∃ rest : List UInt8, rest.length = 64 ∧ rest.take (m.length % 64) = m.drop (m.length / 64 * 64) ∧ cs = hcells (blocks (m.length / 64) init8 m) rest m.length
theorem HS.new : HS [] (hcells init8 (List.replicate 64 0) 0) := ⟨List.replicate 64 0, by simp, by simp, rfl⟩
/-- the last piece, behind whole blocks -/
theorem HS.tail (m l : List UInt8) (rest : List UInt8) (hr : rest.length = 64) (hm : m.length % 64 = 0) (hl : l.length < 64) :
    HS (m ++ l) (hcells (blocks (m.length / 64) init8 m) (put rest 0 l) (m.length + l.length)) := by
  have e1 : (m ++ l).length / 64 = m.length / 64 := by rw [List.length_append]; omega
  have e2 : (m ++ l).length % 64 = l.length := by rw [List.length_append]; omega
  have e3 : m.length / 64 * 64 = m.length := by omega
  refine ⟨put rest 0 l, by rw [put_length (by omega), hr], ?_, ?_⟩
  · rw [e2, e1, e3]
    simp [put]
  · rw [e1, blocks_prefix _ _ _ _ (by omega), List.length_append]
/-- a piece that fills no block -/
theorem HS.part (m l : List UInt8) (rest : List UInt8) (hr : rest.length = 64) (ht : rest.take (m.length % 64) = m.drop (m.length / 64 * 64)) (hl : m.length % 64 + l.length < 64) :
    HS (m ++ l) (hcells (blocks (m.length / 64) init8 m) (put rest (m.length % 64) l) (m.length + l.length)) := by
  have e1 : (m ++ l).length / 64 = m.length / 64 := by rw [List.length_append]; omega
  have e2 : (m ++ l).length % 64 = m.length % 64 + l.length := by rw [List.length_append]; omega
  refine ⟨put rest (m.length % 64) l, by rw [put_length (by omega), hr], ?_, ?_⟩
  · rw [e2, e1, List.drop_append_of_le_length (by omega), ← ht]
    unfold put
    rw [List.take_append_of_le_length (by simp; omega), List.take_of_length_le (by simp; omega)]
  · rw [e1, blocks_prefix _ _ _ _ (by omega), List.length_append]
/-- a piece that fills the block -/
theorem fills (m l : List UInt8) (rest : List UInt8) (hr : rest.length = 64) (ht : rest.take (m.length % 64) = m.drop (m.length / 64 * 64)) (hl : m.length % 64 + l.length = 64) :
    compress (blocks (m.length / 64) init8 m) (put rest (m.length % 64) l) = blocks ((m ++ l).length / 64) init8 (m ++ l) ∧ (m ++ l).length % 64 = 0 := by
  have e1 : (m ++ l).length / 64 = m.length / 64 + 1 := by rw [List.length_append]; omega
  refine ⟨?_, by rw [List.length_append]; omega⟩
  rw [e1, blocks_end, blocks_prefix _ _ _ _ (by omega)]
  congr 1
  have h1 : put rest (m.length % 64) l = m.drop (m.length / 64 * 64) ++ l := by
    unfold put
    have h2 : rest.drop 64 = [] := List.drop_of_length_le (by omega)
    rw [ht, hl, h2, List.append_nil]
  rw [h1, List.drop_append_of_le_length (by omega), List.take_of_length_le (by simp; omega), Nat.mul_comm]
/-- one block more -/
theorem block_more (m l : List UInt8) (j : Nat) (hm : m.length % 64 = 0) :
    compress (blocks (m.length / 64 + j) init8 (m ++ l)) ((l.drop (64 * j)).take 64) = blocks (m.length / 64 + (j + 1)) init8 (m ++ l) := by
  rw [← Nat.add_assoc, blocks_end]
  congr 2
  have h2 : m.drop (64 * (m.length / 64 + j)) = [] := List.drop_of_length_le (by omega)
  rw [List.drop_append, h2, List.nil_append]
  congr 1
  omega
end Go.Dk

/- The walk of turn, right and take: one block taken in. -/
namespace Go.Proofs.YtpomngkcfbnjoaaDoor
open Go.RowKit Go.Dk

theorem ret_int {k : IntKind} {a b : Int} (h : a = b) : Ending.returned (.int k a) = .returned (.int k b) := by rw [h]
theorem rotr_int (x n : Nat) (hx : x < 4294967296) : bits .or .u32 ((x : Int) / 2 ^ n) ((x : Int) * 2 ^ (32 - n) % 4294967296) = (rotr x n : Nat) := by
  have h1 : x / 2 ^ n < 4294967296 := Nat.lt_of_le_of_lt (Nat.div_le_self _ _) hx
  have h2 : x * 2 ^ (32 - n) % 4294967296 < 4294967296 := Nat.mod_lt _ (by decide)
  have := u32_or_nat (x / 2 ^ n) (x * 2 ^ (32 - n) % 4294967296) h1 h2
  rw [rotr, ← this]
  congr 1 <;> simp [Int.natCast_ediv, Int.natCast_emod, Int.natCast_mul, Int.natCast_pow]

set_option maxHeartbeats 400000 in
theorem turn_any (x n : Nat) (hx : x < 4294967296) (hn : 0 < n) (h32 : n < 32) (w : World) :
    Calls Tryd.prog 104 #[.int .u32 x, .int .i64 n] w fun e w' => e = .returned (.int .u32 (rotr x n : Nat)) ∧ ∃ k, w' = w.drewN k := by
  have hr := Lib.hid (rotr_int x n hx)
  go_enter Tryd.func104, Tryd.ntmps104
  go_wp2
  go_quiet (fail)
  go_wp2
  go_ret
  exact ⟨ret_int hr.out, nq, rfl⟩
set_option maxHeartbeats 400000 in
theorem right_any (x n : Nat) (hx : x < 4294967296) (hn : 0 < n) (h32 : n < 32) (w : World) :
    Calls Tryd.prog 81 #[.int .u32 x, .int .i64 n] w fun e w' => e = .returned (.int .u32 (rotr x n : Nat)) ∧ w = w' := by
  have hr := Lib.hid (rotr_int x n hx)
  go_enter Tryd.func81, Tryd.ntmps81
  go_wp2
  go_ret
  exact ⟨ret_int hr.out, rfl⟩

theorem turn_at (x : Nat) (m : Int) (n : Nat) (hm : m = n) (hx : x < 4294967296) (hn : 0 < n) (h32 : n < 32) (w : World) :
    Calls Tryd.prog 104 #[.int .u32 x, .int .i64 m] w fun e w' => e = .returned (.int .u32 (rotr x n : Nat)) ∧ ∃ k, w' = w.drewN k := by
  subst hm; exact turn_any x n hx hn h32 w
theorem zero108 : zeroIs Tryd.prog 158 (.agg (wc (List.replicate 64 0)).toArray) := by unfold zeroIs; kernel_rfl
/-- the table's cells -/
def Tab (w : World) : Prop := ∀ i, i < 64 → w.cell? ⟨0, i, none⟩ = some (.int .u32 (wAt ks i : Nat))
theorem Tab.lt {w : World} (h : Tab w) : 0 < w.heap.size := by
  have h0 := h 0 (by decide)
  unfold World.cell? at h0
  rcases Nat.eq_zero_or_pos w.heap.size with h1 | h1
  · have h2 : w.heap[0]? = none := Array.getElem?_eq_none (by omega)
    simp [h2] at h0
  · exact h1

/-- words so far, zeros behind them -/
def filled (l : List Nat) : List Value := wc (l ++ List.replicate (64 - l.length) 0)

theorem words_length (k : Nat) (bs : List UInt8) : (words k bs).length = k := by induction k <;> simp [words, *]
theorem wrap_u32_byte (b : UInt8) : IntKind.u32.wrap (b.toNat : Int) = b.toNat := by rw [IntKind.wrap_u32']; have := b.toNat_lt; omega
theorem word_int (a b c d : UInt8) : bits .or .u32 (bits .or .u32 (bits .or .u32 (IntKind.u32.wrap (IntKind.u32.wrap (a.toNat : Int) * 16777216)) (IntKind.u32.wrap (IntKind.u32.wrap (b.toNat : Int) * 65536))) (IntKind.u32.wrap (IntKind.u32.wrap (c.toNat : Int) * 256)))
    (IntKind.u32.wrap (d.toNat : Int)) = (word a b c d : Nat) := by
  have ha := a.toNat_lt
  have hb := b.toNat_lt
  have hc := c.toNat_lt
  have hd := d.toNat_lt
  have e1 : IntKind.u32.wrap ((a.toNat : Int) * 16777216) = ((a.toNat * 2 ^ 24 : Nat) : Int) := by rw [IntKind.wrap_u32']; omega
  have e2 : IntKind.u32.wrap ((b.toNat : Int) * 65536) = ((b.toNat * 2 ^ 16 : Nat) : Int) := by rw [IntKind.wrap_u32']; omega
  have e3 : IntKind.u32.wrap ((c.toNat : Int) * 256) = ((c.toNat * 2 ^ 8 : Nat) : Int) := by rw [IntKind.wrap_u32']; omega
  simp only [wrap_u32_byte, e1, e2, e3]
  have h1 : a.toNat * 2 ^ 24 ||| b.toNat * 2 ^ 16 < 2 ^ 32 := Nat.or_lt_two_pow (by omega) (by omega)
  have h2 : (a.toNat * 2 ^ 24 ||| b.toNat * 2 ^ 16) ||| c.toNat * 2 ^ 8 < 2 ^ 32 := Nat.or_lt_two_pow h1 (by omega)
  rw [u32_or_nat _ _ (by omega) (by omega), u32_or_nat _ _ h1 (by omega), u32_or_nat _ _ h2 (by omega)]
  rfl
theorem filled_length (l : List Nat) (h : l.length ≤ 64) : (filled l).length = 64 := by simp [filled, wc]; omega
theorem filled_set (l : List Nat) (v : Nat) (h : l.length < 64) : (filled l).set l.length (.int .u32 (v : Int)) = filled (l ++ [v]) := by
  unfold filled wc
  have e : List.replicate (64 - l.length) 0 = 0 :: List.replicate (64 - (l ++ [v]).length) 0 := by
    rw [List.length_append, List.length_singleton, show 64 - l.length = (64 - (l.length + 1)) + 1 by omega, List.replicate_succ]
  rw [e]
  simp
theorem words_set (k : Nat) (bs : List UInt8) (hk : k < 16) : (filled (words k bs)).set k (.int .u32 (word (bAt bs (4 * k)) (bAt bs (4 * k + 1)) (bAt bs (4 * k + 2)) (bAt bs (4 * k + 3)) : Nat)) = filled (words (k + 1) bs) := by
  have := filled_set (words k bs) (word (bAt bs (4 * k)) (bAt bs (4 * k + 1)) (bAt bs (4 * k + 2)) (bAt bs (4 * k + 3))) (by rw [words_length]; omega)
  rw [words_length] at this
  exact this
theorem val_u32 {a b : Int} (h : a = b) : Value.int .u32 a = .int .u32 b := by rw [h]
theorem size80 : (Tryd.prog.info? 131).map (·.size) = some 1 := by kernel_rfl

theorem rotr_lt (x n : Nat) (hx : x < 4294967296) : rotr x n < 4294967296 := by
  have h1 : x / 2 ^ n < 2 ^ 32 := Nat.lt_of_le_of_lt (Nat.div_le_self _ _) hx
  exact Nat.or_lt_two_pow h1 (Nat.mod_lt _ (by decide))
theorem word_lt (a b c d : UInt8) : word a b c d < 4294967296 := by
  have ha := a.toNat_lt
  have hb := b.toNat_lt
  have hc := c.toNat_lt
  have hd := d.toNat_lt
  have h1 : a.toNat * 2 ^ 24 ||| b.toNat * 2 ^ 16 < 2 ^ 32 := Nat.or_lt_two_pow (by omega) (by omega)
  have h2 : (a.toNat * 2 ^ 24 ||| b.toNat * 2 ^ 16) ||| c.toNat * 2 ^ 8 < 2 ^ 32 := Nat.or_lt_two_pow h1 (by omega)
  exact Nat.or_lt_two_pow h2 (by omega)
theorem words_lt (k : Nat) (bs : List UInt8) : ∀ x ∈ words k bs, x < 4294967296 := by
  induction k with
  | zero => intro x h; cases h
  | succ k ih =>
    intro x h
    simp only [words, List.mem_append, List.mem_singleton] at h
    rcases h with h | rfl
    · exact ih x h
    · exact word_lt _ _ _ _
theorem sched_lt (n : Nat) (l : List Nat) (h : ∀ x ∈ l, x < 4294967296) : ∀ x ∈ sched n l, x < 4294967296 := by
  induction n with
  | zero => exact h
  | succ n ih =>
    intro x hx
    simp only [sched, List.mem_append, List.mem_singleton] at hx
    rcases hx with hx | rfl
    · exact ih x hx
    · exact add32_lt _ _
theorem sched_length (n : Nat) (l : List Nat) : (sched n l).length = l.length + n := by
  induction n with
  | zero => rfl
  | succ n ih => simp only [sched, List.length_append, List.length_singleton, ih]; omega
theorem wAt_lt (l : List Nat) (h : ∀ x ∈ l, x < 4294967296) (i : Nat) : wAt l i < 4294967296 := by
  unfold wAt
  cases hi : l[i]? with
  | none => decide
  | some v => exact h v (List.mem_of_getElem? hi)
theorem filled_at (l : List Nat) (i : Nat) (h : i < l.length) : (filled l)[i]? = some (.int .u32 (wAt l i : Nat)) := by
  have : (filled l)[i]? = (wc l)[i]? := by
    unfold filled wc
    rw [List.map_append, List.getElem?_append_left (by simpa using h)]
  rw [this]
  simp [wc, wAt, h]
theorem sum_int (a b : Nat) : IntKind.u32.wrap ((a : Int) + b) = (add32 a b : Nat) := by rw [IntKind.wrap_u32', add32]; omega
theorem sig_int (x p q k : Nat) (hx : x < 4294967296) : bits .xor .u32 (bits .xor .u32 (rotr x p : Nat) (rotr x q : Nat)) ((x / k : Nat) : Int) = (((rotr x p ^^^ rotr x q) ^^^ (x / k) : Nat) : Int) := by
  have h1 := rotr_lt x p hx
  have h2 := rotr_lt x q hx
  have h3 : x / k < 2 ^ 32 := Nat.lt_of_le_of_lt (Nat.div_le_self _ _) hx
  rw [u32_xor_nat _ _ h1 h2, u32_xor_nat _ _ (Nat.xor_lt_two_pow (n := 32) h1 h2) h3]
theorem sched_int (u x v y : Nat) (hx : x < 4294967296) (hy : y < 4294967296) :
    IntKind.u32.wrap (IntKind.u32.wrap (IntKind.u32.wrap ((u : Int) + bits .xor .u32 (bits .xor .u32 (rotr x 7 : Nat) (rotr x 18 : Nat)) ((x : Int) / 8)) + v) + bits .xor .u32 (bits .xor .u32 (rotr y 17 : Nat) (rotr y 19 : Nat)) ((y : Int) / 1024)) =
      (add32 (add32 (add32 u (sig0 x)) v) (sig1 y) : Nat) := by
  have e1 : (x : Int) / 8 = ((x / 2 ^ 3 : Nat) : Int) := by omega
  have e2 : (y : Int) / 1024 = ((y / 2 ^ 10 : Nat) : Int) := by omega
  rw [e1, e2, sig_int x 7 18 _ hx, sig_int y 17 19 _ hy, sum_int, sum_int, sum_int]
  rfl
theorem big_int (x p q r : Nat) (hx : x < 4294967296) : bits .xor .u32 (bits .xor .u32 (rotr x p : Nat) (rotr x q : Nat)) (rotr x r : Nat) = (((rotr x p ^^^ rotr x q) ^^^ rotr x r : Nat) : Int) := by
  have h1 := rotr_lt x p hx
  have h2 := rotr_lt x q hx
  have h3 := rotr_lt x r hx
  rw [u32_xor_nat _ _ h1 h2, u32_xor_nat _ _ (Nat.xor_lt_two_pow (n := 32) h1 h2) h3]
def St.ok (s : St) : Prop := s.a < 4294967296 ∧ s.b < 4294967296 ∧ s.c < 4294967296 ∧ s.d < 4294967296 ∧ s.e < 4294967296 ∧ s.f < 4294967296 ∧ s.g < 4294967296 ∧ s.h < 4294967296
theorem ok_step {s : St} (h : St.ok s) (k w : Nat) : St.ok (s.step k w) := ⟨add32_lt _ _, h.1, h.2.1, h.2.2.1, add32_lt _ _, h.2.2.2.2.1, h.2.2.2.2.2.1, h.2.2.2.2.2.2.1⟩
theorem ok_of {l : List Nat} (h : ∀ x ∈ l, x < 4294967296) : St.ok (St.of l) := ⟨wAt_lt l h _, wAt_lt l h _, wAt_lt l h _, wAt_lt l h _, wAt_lt l h _, wAt_lt l h _, wAt_lt l h _, wAt_lt l h _⟩
theorem ok_rounds (w : List Nat) {s : St} (h : St.ok s) (t : Nat) : St.ok (rounds w s t) := by
  induction t with
  | zero => exact h
  | succ t ih => exact ok_step ih _ _
theorem ch_int (e f g : Nat) (he : e < 4294967296) (hf : f < 4294967296) (hg : g < 4294967296) :
    bits .xor .u32 (bits .and .u32 (e : Int) f) (bits .and .u32 (bits .xor .u32 (if IntKind.u32.signed = true then -1 else IntKind.u32.max) (e : Int)) g) = (chN e f g : Nat) := by
  have h1 : (if IntKind.u32.signed = true then (-1 : Int) else IntKind.u32.max) = ((4294967295 : Nat) : Int) := by decide
  have h2 : (4294967295 : Nat) ^^^ e < 2 ^ 32 := Nat.xor_lt_two_pow (by decide) he
  rw [h1, u32_and_nat e f he hf, u32_xor_nat _ e (by decide) he, u32_and_nat _ g h2 hg, u32_xor_nat _ _ (Nat.lt_of_le_of_lt Nat.and_le_left he) (Nat.lt_of_le_of_lt Nat.and_le_right hg)]
  rfl
theorem maj_int (a b c : Nat) (ha : a < 4294967296) (hb : b < 4294967296) (hc : c < 4294967296) :
    bits .xor .u32 (bits .xor .u32 (bits .and .u32 (a : Int) b) (bits .and .u32 (a : Int) c)) (bits .and .u32 (b : Int) c) = (majN a b c : Nat) := by
  have h1 : a &&& b < 2 ^ 32 := Nat.lt_of_le_of_lt Nat.and_le_left ha
  have h2 : a &&& c < 2 ^ 32 := Nat.lt_of_le_of_lt Nat.and_le_left ha
  have h3 : b &&& c < 2 ^ 32 := Nat.lt_of_le_of_lt Nat.and_le_left hb
  rw [u32_and_nat a b ha hb, u32_and_nat a c ha hc, u32_and_nat b c hb hc, u32_xor_nat _ _ h1 h2, u32_xor_nat _ _ (Nat.xor_lt_two_pow (n := 32) h1 h2) h3]
  rfl
theorem a_int (a b c d e f g h k w : Nat) (ha : a < 4294967296) (hb : b < 4294967296) (hc : c < 4294967296) (he : e < 4294967296) (hf : f < 4294967296) (hg : g < 4294967296) :
    (((((((h : Int) + bits .xor .u32 (bits .xor .u32 (rotr e 6 : Nat) (rotr e 11 : Nat)) (rotr e 25 : Nat)) % 4294967296 +
      bits .xor .u32 (bits .and .u32 (e : Int) f) (bits .and .u32 (bits .xor .u32 (if IntKind.u32.signed = true then -1 else IntKind.u32.max) (e : Int)) g)) % 4294967296 + k) % 4294967296 + w) % 4294967296 +
      (bits .xor .u32 (bits .xor .u32 (rotr a 2 : Nat) (rotr a 13 : Nat)) (rotr a 22 : Nat) + bits .xor .u32 (bits .xor .u32 (bits .and .u32 (a : Int) b) (bits .and .u32 (a : Int) c)) (bits .and .u32 (b : Int) c)) % 4294967296) % 4294967296) =
      ((St.step ⟨a, b, c, d, e, f, g, h⟩ k w).a : Nat) := by
  rw [big_int e 6 11 25 he, big_int a 2 13 22 ha, ch_int e f g he hf hg, maj_int a b c ha hb hc]
  simp only [St.step, St.x, St.y, Sig0, Sig1, add32]
  omega
theorem e_int (a b c d e f g h k w : Nat) (he : e < 4294967296) (hf : f < 4294967296) (hg : g < 4294967296) :
    ((d : Int) + (((((h : Int) + bits .xor .u32 (bits .xor .u32 (rotr e 6 : Nat) (rotr e 11 : Nat)) (rotr e 25 : Nat)) % 4294967296 +
      bits .xor .u32 (bits .and .u32 (e : Int) f) (bits .and .u32 (bits .xor .u32 (if IntKind.u32.signed = true then -1 else IntKind.u32.max) (e : Int)) g)) % 4294967296 + k) % 4294967296 + w) % 4294967296) % 4294967296 =
      ((St.step ⟨a, b, c, d, e, f, g, h⟩ k w).e : Nat) := by
  rw [big_int e 6 11 25 he, ch_int e f g he hf hg]
  simp only [St.step, St.x, Sig1, add32]
  omega
/-- the state, its first k words summed up -/
def cur (st R : List Nat) (k : Nat) : List Nat := (List.range 8).map fun i => if i < k then add32 (wAt st i) (wAt R i) else wAt st i
theorem cur_length (st R : List Nat) (k : Nat) : (cur st R k).length = 8 := by simp [cur]
theorem cur_zero (st R : List Nat) (h : st.length = 8) : cur st R 0 = st := by
  apply List.ext_getElem?
  intro i
  by_cases hi : i < 8
  · simp [cur, hi, wAt, h]
  · simp [cur, hi, h]
theorem cur_end (st R : List Nat) : cur st R 8 = (List.range 8).map fun i => add32 (wAt st i) (wAt R i) := by
  unfold cur
  apply List.map_congr_left
  intro i hi
  rw [if_pos (by simpa using hi)]
theorem cur_at (st R : List Nat) (k : Nat) (hk : k < 8) : (wc (cur st R k))[k]? = some (.int .u32 (wAt st k : Nat)) := by simp [wc, cur, hk]
theorem cur_step (st R : List Nat) (k : Nat) (hk : k < 8) : (wc (cur st R k)).set k (.int .u32 (add32 (wAt st k) (wAt R k) : Nat)) = wc (cur st R (k + 1)) := by
  apply List.ext_getElem?
  intro i
  rw [List.getElem?_set]
  by_cases h1 : k = i
  · subst h1; simp [wc, cur, hk]
  · by_cases h2 : i < 8
    · have : i < k ↔ i < k + 1 := by omega
      simp [wc, cur, h1, h2, this]
    · simp [wc, cur, h1, h2]
set_option maxRecDepth 100000 in
set_option maxHeartbeats 4000000 in
theorem take_any (w : World) (hb so : Nat) (T : TypeId) (cs : List Value) (st : List Nat) (hrow : w.heap[hb]? = some (.cells cs.toArray T (0, 0))) (hst : (cs.drop so).take 8 = wc st)
    (hl : st.length = 8) (hstlt : ∀ x ∈ st, x < 4294967296) (hso : so + 8 ≤ cs.length) (pb po c : Nat) (bs : List UInt8)
    (hst' : ∀ i, i < 8 → w.cell? ⟨hb, so + i, none⟩ = some (.int .u32 (wAt st i : Nat)))
    (hp : ∀ i, i < 64 → w.cell? ⟨pb, po + i, none⟩ = some (.int .u8 (bAt bs i).toNat)) (hpl : pb < w.heap.size) (hT : Tab w) :
    Calls Tryd.prog 91 #[.pointer (some ⟨hb, so, none⟩), .slice (some ⟨pb, po, none⟩) 64 c] w fun e w' => e = .returned (.tuple #[]) ∧ At w [(hb, T, splice cs so (wc (compress st bs)))] w' := by
  have hA0 := At.refl w
  go_enter Tryd.func91, Tryd.ntmps91
  go_wp2_with (first
    | (with_reducible refine at_alloc rfl ?_
       refine wpList_plain rfl (fun _ hK => wp_alloc rfl hA0 zero108 (fun n w1 hn hA1 => hK _ _ ?_)); clear hK
       replace hA1 : At w [(n, 158, filled [])] w1 := hA1))
  go_loopw [22] (fun i wr => ∃ k : Nat, k ≤ 16 ∧ i = .int .i64 k ∧ At w [(n, 158, filled (words k bs))] wr) (fun i _ => 16 - (intOf i).toNat)
  case atStart => exact ⟨0, by omega, rfl, hA1⟩
  case round =>
    obtain ⟨k, hk, rfl, hAr⟩ := hrel
    by_cases hlt : k < 16
    · go_wp2
      have e0 : IntKind.i64.wrap (4 * (k : Int)) = 4 * k := IntWalk.i64_in _ (by omega)
      have e1 : IntKind.i64.wrap (4 * (k : Int) + 1) = 4 * k + 1 := IntWalk.i64_in _ (by omega)
      have e2 : IntKind.i64.wrap (4 * (k : Int) + 2) = 4 * k + 2 := IntWalk.i64_in _ (by omega)
      have e3 : IntKind.i64.wrap (4 * (k : Int) + 3) = 4 * k + 3 := IntWalk.i64_in _ (by omega)
      have t0 : (4 * (k : Int)).toNat = 4 * k := by omega
      have t1 : (4 * (k : Int) + 1).toNat = 4 * k + 1 := by omega
      have t2 : (4 * (k : Int) + 2).toNat = 4 * k + 2 := by omega
      have t3 : (4 * (k : Int) + 3).toNat = 4 * k + 3 := by omega
      have l0 : 0 ≤ 4 * (k : Int) ∧ 4 * (k : Int) < 64 := by omega
      have l1 : 0 ≤ 4 * (k : Int) + 1 ∧ 4 * (k : Int) + 1 < 64 := by omega
      have l2 : 0 ≤ 4 * (k : Int) + 2 ∧ 4 * (k : Int) + 2 < 64 := by omega
      have l3 : 0 ≤ 4 * (k : Int) + 3 ∧ 4 * (k : Int) + 3 < 64 := by omega
      have l4 : (k : Int) < 64 := by omega
      haveI : Nonempty { x : World // At w [(n, 158, filled (words k bs))] x } := ⟨⟨_, hAr⟩⟩
      refine wp_region_plan 35 [35] [0,1,2,3,4,5,6,7,8,9,10,11,12,13,14,15,16,17,18,19,20,21,22,23,24,25,26,27,28,29,30,31,32,33,34,35] (At w [(n, 158, filled (words k bs))]) (by kernel_rfl) (by kernel_rfl) (hAr.drew) ?_
      refine plan_pure rfl rfl (fun K hK => ?_); go_simp; refine hK _ ?_; clear hK K
      refine plan_pure rfl rfl (fun K hK => ?_); go_simp; refine hK _ ?_; clear hK K
      refine plan_pure rfl rfl (fun K hK => ?_); go_simp; refine hK _ ?_; clear hK K
      refine plan_pure rfl rfl (fun K hK => ?_); go_simp; refine hK _ ?_; clear hK K
      refine plan_pure rfl rfl (fun K hK => ?_); go_simp; refine hK _ ?_; clear hK K
      refine plan_q rfl rfl rfl _ (fun x hx => run_load_cell (v := .int .u8 (bAt bs (4 * k)).toNat) rfl rfl ((hx.old hpl (by simp; omega) _ _).trans (hp (4 * k) (by omega))) (by kernel_rfl)) ?_
      refine plan_pure rfl rfl (fun K hK => ?_); go_simp; refine hK _ ?_; clear hK K
      refine plan_pure rfl rfl (fun K hK => ?_); go_simp; refine hK _ ?_; clear hK K
      refine plan_pure rfl rfl (fun K hK => ?_); go_simp; refine hK _ ?_; clear hK K
      refine plan_pure rfl rfl (fun K hK => ?_); go_simp; refine hK _ ?_; clear hK K
      refine plan_pure rfl rfl (fun K hK => ?_); go_simp; refine hK _ ?_; clear hK K
      refine plan_pure rfl rfl (fun K hK => ?_); go_simp; refine hK _ ?_; clear hK K
      refine plan_pure rfl rfl (fun K hK => ?_); go_simp; refine hK _ ?_; clear hK K
      refine plan_q rfl rfl rfl _ (fun x hx => run_load_cell (v := .int .u8 (bAt bs (4 * k + 1)).toNat) rfl rfl ((hx.old hpl (by simp; omega) _ _).trans (hp (4 * k + 1) (by omega))) (by kernel_rfl)) ?_
      refine plan_pure rfl rfl (fun K hK => ?_); go_simp; refine hK _ ?_; clear hK K
      refine plan_pure rfl rfl (fun K hK => ?_); go_simp; refine hK _ ?_; clear hK K
      refine plan_pure rfl rfl (fun K hK => ?_); go_simp; refine hK _ ?_; clear hK K
      refine plan_pure rfl rfl (fun K hK => ?_); go_simp; refine hK _ ?_; clear hK K
      refine plan_pure rfl rfl (fun K hK => ?_); go_simp; refine hK _ ?_; clear hK K
      refine plan_pure rfl rfl (fun K hK => ?_); go_simp; refine hK _ ?_; clear hK K
      refine plan_pure rfl rfl (fun K hK => ?_); go_simp; refine hK _ ?_; clear hK K
      refine plan_pure rfl rfl (fun K hK => ?_); go_simp; refine hK _ ?_; clear hK K
      refine plan_q rfl rfl rfl _ (fun x hx => run_load_cell (v := .int .u8 (bAt bs (4 * k + 2)).toNat) rfl rfl ((hx.old hpl (by simp; omega) _ _).trans (hp (4 * k + 2) (by omega))) (by kernel_rfl)) ?_
      refine plan_pure rfl rfl (fun K hK => ?_); go_simp; refine hK _ ?_; clear hK K
      refine plan_pure rfl rfl (fun K hK => ?_); go_simp; refine hK _ ?_; clear hK K
      refine plan_pure rfl rfl (fun K hK => ?_); go_simp; refine hK _ ?_; clear hK K
      refine plan_pure rfl rfl (fun K hK => ?_); go_simp; refine hK _ ?_; clear hK K
      refine plan_pure rfl rfl (fun K hK => ?_); go_simp; refine hK _ ?_; clear hK K
      refine plan_pure rfl rfl (fun K hK => ?_); go_simp; refine hK _ ?_; clear hK K
      refine plan_pure rfl rfl (fun K hK => ?_); go_simp; refine hK _ ?_; clear hK K
      refine plan_pure rfl rfl (fun K hK => ?_); go_simp; refine hK _ ?_; clear hK K
      refine plan_q rfl rfl rfl _ (fun x hx => run_load_cell (v := .int .u8 (bAt bs (4 * k + 3)).toNat) rfl rfl ((hx.old hpl (by simp; omega) _ _).trans (hp (4 * k + 3) (by omega))) (by kernel_rfl)) ?_
      refine plan_pure rfl rfl (fun K hK => ?_); go_simp; refine hK _ ?_; clear hK K
      refine plan_pure rfl rfl (fun K hK => ?_); go_simp; refine hK _ ?_; clear hK K
      refine plan_pure rfl rfl (fun K hK => ?_); go_simp; refine hK _ ?_; clear hK K
      refine plan_l rfl rfl rfl (fun K hK => wp_store1 (off := k) rfl hAr.drew rfl (val_u32 (word_int _ _ _ _)) 0 rfl (by rw [filled_length _ (by rw [words_length]; omega)]; omega) rfl size80 (fun w4 hA4 => hK _ _ (fun h => absurd h (by decide)) ?_))
      clear e0 e1 e2 e3 t0 t1 t2 t3
      replace hA4 : At w [(n, 158, filled (words (k + 1) bs))] w4 := by rw [← words_set k bs hlt]; exact hA4
      refine plan_end ?_
      go_wp2
      go_roundw
      case rel => exact ⟨k + 1, by omega, by go_num, hA4⟩
      case measure => simp [intOf]; omega
    · obtain rfl : k = 16 := by omega
      go_wp2
      replace hAr : At w [(n, 158, filled (sched 0 (words 16 bs)))] wr := hAr
      generalize wr = w2 at hAr
      go_loopw [6] (fun i wr => ∃ k : Nat, 16 ≤ k ∧ k ≤ 64 ∧ i = .int .i64 k ∧ At w [(n, 158, filled (sched (k - 16) (words 16 bs)))] wr) (fun i _ => 64 - (intOf i).toNat)
      case atStart => exact ⟨16, by omega, by omega, rfl, hAr⟩
      case round =>
        clear hAr hA1 hk
        obtain ⟨k, hk1, hk2, rfl, hAr⟩ := hrel
        by_cases hlt : k < 64
        · obtain ⟨V, hV⟩ : ∃ V, V = sched (k - 16) (words 16 bs) := ⟨_, rfl⟩
          have hVl : V.length = k := by rw [hV, sched_length, words_length]; omega
          have hVlt : ∀ x ∈ V, x < 4294967296 := by rw [hV]; exact sched_lt _ _ (words_lt _ _)
          have HVs := Lib.hid (show V ++ [wNext V] = sched (k + 1 - 16) (words 16 bs) by rw [hV, show k + 1 - 16 = (k - 16) + 1 by omega]; rfl)
          rw [← hV] at hAr
          clear hV
          have hx : wAt V (k - 15) < 4294967296 := wAt_lt V hVlt _
          have hy : wAt V (k - 2) < 4294967296 := wAt_lt V hVlt _
          have hxv := filled_at V (k - 15) (by omega)
          have hyv := filled_at V (k - 2) (by omega)
          have h16 := filled_at V (k - 16) (by omega)
          have h7 := filled_at V (k - 7) (by omega)
          obtain ⟨x, hxe⟩ : ∃ x, x = wAt V (k - 15) := ⟨_, rfl⟩
          obtain ⟨y, hye⟩ : ∃ y, y = wAt V (k - 2) := ⟨_, rfl⟩
          obtain ⟨u, hue⟩ : ∃ u, u = wAt V (k - 16) := ⟨_, rfl⟩
          obtain ⟨v, hve⟩ : ∃ v, v = wAt V (k - 7) := ⟨_, rfl⟩
          rw [← hxe] at hx hxv
          rw [← hye] at hy hyv
          rw [← hue] at h16
          rw [← hve] at h7
          have HN := Lib.hid (show add32 (add32 (add32 u (sig0 x)) v) (sig1 y) = wNext V by unfold wNext; rw [hVl, hxe, hye, hue, hve])
          have Hxv := Lib.hid hxv
          have Hyv := Lib.hid hyv
          have H16 := Lib.hid h16
          have H7 := Lib.hid h7
          have HVl := Lib.hid hVl
          have HVlt := Lib.hid hVlt
          clear hxe hye hue hve hxv hyv h16 h7 hVl hVlt
          have l0 : (16 : Int) ≤ k := by omega
          have l1 : (15 : Int) ≤ k := by omega
          have l2 : (7 : Int) ≤ k := by omega
          have l3 : (2 : Int) ≤ k := by omega
          have l5 : (k : Int) - 15 < 64 := by omega
          have l6 : (k : Int) - 2 < 64 := by omega
          have l7 : (k : Int) - 7 < 64 := by omega
          have l8 : (k : Int) - 16 < 64 := by omega
          have l9 : (k : Int) < 64 := by omega
          go_wp2
          have e0 : IntKind.i64.wrap ((k : Int) - 15) = (k : Int) - 15 := IntWalk.i64_in _ (by omega)
          have e1 : IntKind.i64.wrap ((k : Int) - 2) = (k : Int) - 2 := IntWalk.i64_in _ (by omega)
          have e2 : IntKind.i64.wrap ((k : Int) - 7) = (k : Int) - 7 := IntWalk.i64_in _ (by omega)
          have e3 : IntKind.i64.wrap ((k : Int) - 16) = (k : Int) - 16 := IntWalk.i64_in _ (by omega)
          have t0 : ((k : Int) - 15).toNat = k - 15 := by omega
          have t1 : ((k : Int) - 2).toNat = k - 2 := by omega
          have t2 : ((k : Int) - 7).toNat = k - 7 := by omega
          have t3 : ((k : Int) - 16).toNat = k - 16 := by omega
          haveI : Nonempty { x : World // At w [(n, 158, filled V)] x } := ⟨⟨_, hAr⟩⟩
          refine wp_region_plan 9 [9] [0,1,2,3,4,5,6,7,8,9] (At w [(n, 158, filled V)]) (by kernel_rfl) (by kernel_rfl) (hAr.drew) ?_
          refine plan_pure rfl rfl (fun K hK => ?_); go_simp; refine hK _ ?_; clear hK K
          refine plan_pure rfl rfl (fun K hK => ?_); go_simp; refine hK _ ?_; clear hK K
          refine plan_pure rfl rfl (fun K hK => ?_); go_simp; refine hK _ ?_; clear hK K
          refine plan_q rfl rfl rfl _ (fun x hx => run_load1_at rfl hx (off := k - 15) rfl 0 rfl Hxv.out (by kernel_rfl)) ?_
          refine plan_pure rfl rfl (fun K hK => ?_); go_simp; refine hK _ ?_; clear hK K
          refine plan_pure rfl rfl (fun K hK => ?_); go_simp; refine hK _ ?_; clear hK K
          refine plan_pure rfl rfl (fun K hK => ?_); go_simp; refine hK _ ?_; clear hK K
          refine plan_q rfl rfl rfl _ (fun x hx => run_load1_at rfl hx (off := k - 2) rfl 0 rfl Hyv.out (by kernel_rfl)) ?_
          refine plan_pure rfl rfl (fun K hK => ?_); go_simp; refine hK _ ?_; clear hK K
          refine plan_l rfl rfl rfl (fun K hK => ?_); go_simp
          refine hK _ _ (fun h => absurd h (by decide)) ?_; clear hK K
          refine plan_end ?_
          go_wp2_with fail
          have hA3 := hAr.drew
          generalize wr.drew = w3 at hA3 ⊢
          refine wp_region_plan 29 [6,8,20,22,29] [0,1,2,3,4,5,7,10,11,14,15,16,17,19,21,24,25,6,8,9,12,13,18,20,22,23,26,27,28,29] (At w [(n, 158, filled V)]) (by kernel_rfl) (by kernel_rfl) (hA3.drew) ?_
          refine plan_pure rfl rfl (fun K hK => ?_); go_simp; refine hK _ ?_; clear hK K
          refine plan_pure rfl rfl (fun K hK => ?_); go_simp; refine hK _ ?_; clear hK K
          refine plan_pure rfl rfl (fun K hK => ?_); go_simp; refine hK _ ?_; clear hK K
          refine plan_pure rfl rfl (fun K hK => ?_); go_simp; refine hK _ ?_; clear hK K
          refine plan_q rfl rfl rfl _ (fun x hx => run_load1_at rfl hx (off := k - 16) rfl 0 rfl H16.out (by kernel_rfl)) ?_
          refine plan_pure rfl rfl (fun K hK => ?_); go_simp; refine hK _ ?_; clear hK K
          refine plan_pure rfl rfl (fun K hK => ?_); go_simp; refine hK _ ?_; clear hK K
          refine plan_pure rfl rfl (fun K hK => ?_); go_simp; refine hK _ ?_; clear hK K
          refine plan_pure rfl rfl (fun K hK => ?_); go_simp; refine hK _ ?_; clear hK K
          refine plan_pure rfl rfl (fun K hK => ?_); go_simp; refine hK _ ?_; clear hK K
          refine plan_pure rfl rfl (fun K hK => ?_); go_simp; refine hK _ ?_; clear hK K
          refine plan_pure rfl rfl (fun K hK => ?_); go_simp; refine hK _ ?_; clear hK K
          refine plan_q rfl rfl rfl _ (fun x hx => run_load1_at rfl hx (off := k - 7) rfl 0 rfl H7.out (by kernel_rfl)) ?_
          refine plan_pure rfl rfl (fun K hK => ?_); go_simp; refine hK _ ?_; clear hK K
          refine plan_pure rfl rfl (fun K hK => ?_); go_simp; refine hK _ ?_; clear hK K
          refine plan_pure rfl rfl (fun K hK => ?_); go_simp; refine hK _ ?_; clear hK K
          refine plan_pure rfl rfl (fun K hK => ?_); go_simp; refine hK _ ?_; clear hK K
          refine plan_l rfl rfl rfl (fun K hK => ?_); go_simp
          with_reducible refine (turn_at _ 7 7 rfl hx (by decide) (by decide) _).mono ?_
          rintro e w' ⟨rfl, nq, rfl⟩
          go_simp
          refine hK _ _ (fun _ => (hA3.drewN _)) ?_; clear hK K
          refine plan_l rfl rfl rfl (fun K hK => ?_); go_simp
          with_reducible refine (turn_at _ 18 18 rfl hx (by decide) (by decide) _).mono ?_
          rintro e w' ⟨rfl, nq, rfl⟩
          go_simp
          refine hK _ _ (fun _ => (hA3.drewN _)) ?_; clear hK K
          refine plan_pure rfl rfl (fun K hK => ?_); go_simp; refine hK _ ?_; clear hK K
          refine plan_pure rfl rfl (fun K hK => ?_); go_simp; refine hK _ ?_; clear hK K
          refine plan_pure rfl rfl (fun K hK => ?_); go_simp; refine hK _ ?_; clear hK K
          refine plan_pure rfl rfl (fun K hK => ?_); go_simp; refine hK _ ?_; clear hK K
          refine plan_l rfl rfl rfl (fun K hK => ?_); go_simp
          with_reducible refine (turn_at _ 17 17 rfl hy (by decide) (by decide) _).mono ?_
          rintro e w' ⟨rfl, nq, rfl⟩
          go_simp
          refine hK _ _ (fun _ => (hA3.drewN _)) ?_; clear hK K
          refine plan_l rfl rfl rfl (fun K hK => ?_); go_simp
          with_reducible refine (turn_at _ 19 19 rfl hy (by decide) (by decide) _).mono ?_
          rintro e w' ⟨rfl, nq, rfl⟩
          go_simp
          refine hK _ _ (fun _ => (hA3.drewN _)) ?_; clear hK K
          refine plan_pure rfl rfl (fun K hK => ?_); go_simp; refine hK _ ?_; clear hK K
          refine plan_pure rfl rfl (fun K hK => ?_); go_simp; refine hK _ ?_; clear hK K
          refine plan_pure rfl rfl (fun K hK => ?_); go_simp; refine hK _ ?_; clear hK K
          refine plan_pure rfl rfl (fun K hK => ?_); go_simp; refine hK _ ?_; clear hK K
          refine plan_l rfl rfl rfl (fun K hK => wp_store1 (off := k) rfl (hA3.drewN _) rfl (v := .int .u32 ((wNext V : Nat) : Int)) (val_u32 (by rw [sched_int u x v y hx hy, HN.out])) 0 rfl (by rw [filled_length _ (by rw [HVl.out]; omega)]; omega) rfl size80 (fun w4 hA4 => hK _ _ (fun h => absurd h (by decide)) ?_))
          clear e0 e1 e2 e3 t0 t1 t2 t3
          replace hA4 : At w [(n, 158, filled (sched (k + 1 - 16) (words 16 bs)))] w4 := by
            have e := filled_set V (wNext V) (by rw [HVl.out]; exact hlt)
            rw [HVl.out] at e
            rw [← HVs.out, ← e]; exact hA4
          refine plan_end ?_

          go_wp2
          go_roundw
          case rel =>
            refine ⟨_, _, _, _, _, _, _, _, _, _, _, _, _, _, _, _, _, _, _, _, _, _, _, _, _, _, _, _, _, _, _, _, _, _, _, _, _, _, _, _, _, _, _, _, ?_, rfl⟩
            exact ⟨k + 1, by omega, by omega, by go_num, hA4⟩
          case measure => simp [intOf]; omega
        · obtain rfl : k = 64 := by omega
          replace hAr : At w [(n, 158, filled (sched 48 (words 16 bs)))] wr := hAr
          obtain ⟨Wd, hWd⟩ : ∃ Wd, Wd = sched 48 (words 16 bs) := ⟨_, rfl⟩
          have HWl := Lib.hid (show Wd.length = 64 by rw [hWd, sched_length, words_length])
          have HWlt := Lib.hid (show ∀ x ∈ Wd, x < 4294967296 by rw [hWd]; exact sched_lt _ _ (words_lt _ _))
          have HC := Lib.hid (show (List.range 8).map (fun i => add32 (wAt st i) (wAt (rounds Wd (St.of st) 64).list i)) = compress st bs by rw [hWd]; rfl)
          rw [← hWd] at hAr
          clear hWd
          go_wp2
          haveI : Nonempty { x : World // At w [(n, 158, filled Wd)] x } := ⟨⟨_, hAr⟩⟩
          have hbl : hb < w.heap.size := lt_of_row hrow
          have hbn : hb ∉ [((n, 158, filled Wd) : Row)].map (·.1) := by simp; omega
          refine wp_region_plan 39 [39] [0,1,2,3,4,5,6,7,8,9,10,11,12,13,14,15,16,17,18,19,20,21,22,23,24,25,26,27,28,29,30,31,32,33,34,35,36,37,38,39] (At w [(n, 158, filled Wd)]) (by kernel_rfl) (by kernel_rfl) (hAr.drew) ?_
          refine plan_pure rfl rfl (fun K hK => ?_); go_simp; refine hK _ ?_; clear hK K
          refine plan_pure rfl rfl (fun K hK => ?_); go_simp; refine hK _ ?_; clear hK K
          refine plan_pure rfl rfl (fun K hK => ?_); go_simp; refine hK _ ?_; clear hK K
          refine plan_q rfl rfl rfl _ (fun x hx => run_load_cell (v := .int .u32 (wAt st 0 : Nat)) rfl rfl ((hx.old hbl hbn _ _).trans (hst' 0 (by decide))) (by kernel_rfl)) ?_
          refine plan_pure rfl rfl (fun K hK => ?_); go_simp; refine hK _ ?_; clear hK K
          refine plan_pure rfl rfl (fun K hK => ?_); go_simp; refine hK _ ?_; clear hK K
          refine plan_pure rfl rfl (fun K hK => ?_); go_simp; refine hK _ ?_; clear hK K
          refine plan_q rfl rfl rfl _ (fun x hx => run_load_cell (v := .int .u32 (wAt st 1 : Nat)) rfl rfl ((hx.old hbl hbn _ _).trans (hst' 1 (by decide))) (by kernel_rfl)) ?_
          refine plan_pure rfl rfl (fun K hK => ?_); go_simp; refine hK _ ?_; clear hK K
          refine plan_pure rfl rfl (fun K hK => ?_); go_simp; refine hK _ ?_; clear hK K
          refine plan_pure rfl rfl (fun K hK => ?_); go_simp; refine hK _ ?_; clear hK K
          refine plan_q rfl rfl rfl _ (fun x hx => run_load_cell (v := .int .u32 (wAt st 2 : Nat)) rfl rfl ((hx.old hbl hbn _ _).trans (hst' 2 (by decide))) (by kernel_rfl)) ?_
          refine plan_pure rfl rfl (fun K hK => ?_); go_simp; refine hK _ ?_; clear hK K
          refine plan_pure rfl rfl (fun K hK => ?_); go_simp; refine hK _ ?_; clear hK K
          refine plan_pure rfl rfl (fun K hK => ?_); go_simp; refine hK _ ?_; clear hK K
          refine plan_q rfl rfl rfl _ (fun x hx => run_load_cell (v := .int .u32 (wAt st 3 : Nat)) rfl rfl ((hx.old hbl hbn _ _).trans (hst' 3 (by decide))) (by kernel_rfl)) ?_
          refine plan_pure rfl rfl (fun K hK => ?_); go_simp; refine hK _ ?_; clear hK K
          refine plan_pure rfl rfl (fun K hK => ?_); go_simp; refine hK _ ?_; clear hK K
          refine plan_pure rfl rfl (fun K hK => ?_); go_simp; refine hK _ ?_; clear hK K
          refine plan_q rfl rfl rfl _ (fun x hx => run_load_cell (v := .int .u32 (wAt st 4 : Nat)) rfl rfl ((hx.old hbl hbn _ _).trans (hst' 4 (by decide))) (by kernel_rfl)) ?_
          refine plan_pure rfl rfl (fun K hK => ?_); go_simp; refine hK _ ?_; clear hK K
          refine plan_pure rfl rfl (fun K hK => ?_); go_simp; refine hK _ ?_; clear hK K
          refine plan_pure rfl rfl (fun K hK => ?_); go_simp; refine hK _ ?_; clear hK K
          refine plan_q rfl rfl rfl _ (fun x hx => run_load_cell (v := .int .u32 (wAt st 5 : Nat)) rfl rfl ((hx.old hbl hbn _ _).trans (hst' 5 (by decide))) (by kernel_rfl)) ?_
          refine plan_pure rfl rfl (fun K hK => ?_); go_simp; refine hK _ ?_; clear hK K
          refine plan_pure rfl rfl (fun K hK => ?_); go_simp; refine hK _ ?_; clear hK K
          refine plan_pure rfl rfl (fun K hK => ?_); go_simp; refine hK _ ?_; clear hK K
          refine plan_q rfl rfl rfl _ (fun x hx => run_load_cell (v := .int .u32 (wAt st 6 : Nat)) rfl rfl ((hx.old hbl hbn _ _).trans (hst' 6 (by decide))) (by kernel_rfl)) ?_
          refine plan_pure rfl rfl (fun K hK => ?_); go_simp; refine hK _ ?_; clear hK K
          refine plan_pure rfl rfl (fun K hK => ?_); go_simp; refine hK _ ?_; clear hK K
          refine plan_pure rfl rfl (fun K hK => ?_); go_simp; refine hK _ ?_; clear hK K
          refine plan_q rfl rfl rfl _ (fun x hx => run_load_cell (v := .int .u32 (wAt st 7 : Nat)) rfl rfl ((hx.old hbl hbn _ _).trans (hst' 7 (by decide))) (by kernel_rfl)) ?_
          refine plan_pure rfl rfl (fun K hK => ?_); go_simp; refine hK _ ?_; clear hK K
          refine plan_pure rfl rfl (fun K hK => ?_); go_simp; refine hK _ ?_; clear hK K
          refine plan_pure rfl rfl (fun K hK => ?_); go_simp; refine hK _ ?_; clear hK K
          refine plan_pure rfl rfl (fun K hK => ?_); go_simp; refine hK _ ?_; clear hK K
          refine plan_pure rfl rfl (fun K hK => ?_); go_simp; refine hK _ ?_; clear hK K
          refine plan_pure rfl rfl (fun K hK => ?_); go_simp; refine hK _ ?_; clear hK K
          refine plan_pure rfl rfl (fun K hK => ?_); go_simp; refine hK _ ?_; clear hK K
          refine plan_l rfl rfl rfl (fun K hK => ?_); go_simp
          refine hK _ _ (fun h => absurd h (by decide)) ?_; clear hK K
          refine plan_end ?_
          go_wp2
          have hA3 := hAr.drew
          generalize wr.drew = w3 at hA3 ⊢
          go_loopw [9, 10, 11, 12, 13, 14, 15, 16, 134] (fun va vb vc vd ve vf vg vh i wr => ∃ t : Nat, t ≤ 64 ∧ i = .int .i64 t ∧ va = .int .u32 ((rounds Wd (St.of st) t).a : Nat) ∧ vb = .int .u32 ((rounds Wd (St.of st) t).b : Nat) ∧ vc = .int .u32 ((rounds Wd (St.of st) t).c : Nat) ∧ vd = .int .u32 ((rounds Wd (St.of st) t).d : Nat) ∧ ve = .int .u32 ((rounds Wd (St.of st) t).e : Nat) ∧ vf = .int .u32 ((rounds Wd (St.of st) t).f : Nat) ∧ vg = .int .u32 ((rounds Wd (St.of st) t).g : Nat) ∧ vh = .int .u32 ((rounds Wd (St.of st) t).h : Nat) ∧ At w [(n, 158, filled Wd)] wr) (fun _ _ _ _ _ _ _ _ i _ => 64 - (intOf i).toNat)
          case atStart => exact ⟨0, by omega, rfl, rfl, rfl, rfl, rfl, rfl, rfl, rfl, rfl, hA3⟩
          case round =>
            clear hAr hA3
            obtain ⟨t, ht, rfl, rfl, rfl, rfl, rfl, rfl, rfl, rfl, rfl, hAr⟩ := hrel
            by_cases hlt : t < 64
            · obtain ⟨S, hS⟩ : ∃ S, S = rounds Wd (St.of st) t := ⟨_, rfl⟩
              have hok : St.ok S := by rw [hS]; exact ok_rounds _ (ok_of hstlt) t
              have HN := Lib.hid (show S.step (wAt ks t) (wAt Wd t) = rounds Wd (St.of st) (t + 1) by rw [hS]; rfl)
              rw [← hS]
              clear hS
              obtain ⟨a, b, c', d, e, f, g, h⟩ := S
              obtain ⟨ha, hb', hc, hd, he, hf, hg, hh⟩ := hok
              have Hw := Lib.hid (filled_at Wd t (by rw [HWl.out]; exact hlt))
              have hti : (t : Int) < 64 := by omega
              go_wp2
              have hg0 : 0 < w.heap.size := hT.lt
              have hgn : 0 ∉ [((n, 158, filled Wd) : Row)].map (·.1) := by simp; omega
              haveI : Nonempty { x : World // At w [(n, 158, filled Wd)] x } := ⟨⟨_, hAr⟩⟩
              refine wp_region_plan 27 [2,4,7,27] [0,1,3,6,10,11,12,13,14,15,16,17,19,20,21,23,24,25,2,4,5,7,8,9,18,22,26,27] (At w [(n, 158, filled Wd)]) (by kernel_rfl) (by kernel_rfl) (hAr.drew) ?_
              refine plan_pure rfl rfl (fun K hK => ?_); go_simp; refine hK _ ?_; clear hK K
              refine plan_pure rfl rfl (fun K hK => ?_); go_simp; refine hK _ ?_; clear hK K
              refine plan_pure rfl rfl (fun K hK => ?_); go_simp; refine hK _ ?_; clear hK K
              refine plan_pure rfl rfl (fun K hK => ?_); go_simp; refine hK _ ?_; clear hK K
              refine plan_pure rfl rfl (fun K hK => ?_); go_simp; refine hK _ ?_; clear hK K
              refine plan_pure rfl rfl (fun K hK => ?_); go_simp; refine hK _ ?_; clear hK K
              refine plan_pure rfl rfl (fun K hK => ?_); go_simp; refine hK _ ?_; clear hK K
              refine plan_pure rfl rfl (fun K hK => ?_); go_simp; refine hK _ ?_; clear hK K
              refine plan_pure rfl rfl (fun K hK => ?_); go_simp; refine hK _ ?_; clear hK K
              refine plan_pure rfl rfl (fun K hK => ?_); go_simp; refine hK _ ?_; clear hK K
              refine plan_pure rfl rfl (fun K hK => ?_); go_simp; refine hK _ ?_; clear hK K
              refine plan_pure rfl rfl (fun K hK => ?_); go_simp; refine hK _ ?_; clear hK K
              refine plan_pure rfl rfl (fun K hK => ?_); go_simp; refine hK _ ?_; clear hK K
              refine plan_pure rfl rfl (fun K hK => ?_); go_simp; refine hK _ ?_; clear hK K
              refine plan_q rfl rfl rfl _ (fun x hx => run_load_cell (v := .int .u32 (wAt ks t : Nat)) rfl rfl ((hx.old hg0 hgn _ _).trans (hT t hlt)) (by kernel_rfl)) ?_
              refine plan_pure rfl rfl (fun K hK => ?_); go_simp; refine hK _ ?_; clear hK K
              refine plan_pure rfl rfl (fun K hK => ?_); go_simp; refine hK _ ?_; clear hK K
              refine plan_q rfl rfl rfl _ (fun x hx => run_load1_at rfl hx (off := t) rfl 0 rfl Hw.out (by kernel_rfl)) ?_
              refine plan_l rfl rfl rfl (fun K hK => ?_); go_simp
              with_reducible refine (turn_at _ 6 6 rfl he (by decide) (by decide) _).mono ?_
              rintro e' w' ⟨rfl, nq, rfl⟩
              go_simp
              refine hK _ _ (fun _ => (hAr.drewN _)) ?_; clear hK K
              refine plan_l rfl rfl rfl (fun K hK => ?_); go_simp
              with_reducible refine (turn_at _ 11 11 rfl he (by decide) (by decide) _).mono ?_
              rintro e' w' ⟨rfl, nq, rfl⟩
              go_simp
              refine hK _ _ (fun _ => (hAr.drewN _)) ?_; clear hK K
              refine plan_pure rfl rfl (fun K hK => ?_); go_simp; refine hK _ ?_; clear hK K
              refine plan_l rfl rfl rfl (fun K hK => ?_); go_simp
              with_reducible refine (turn_at _ 25 25 rfl he (by decide) (by decide) _).mono ?_
              rintro e' w' ⟨rfl, nq, rfl⟩
              go_simp
              refine hK _ _ (fun _ => (hAr.drewN _)) ?_; clear hK K
              refine plan_pure rfl rfl (fun K hK => ?_); go_simp; refine hK _ ?_; clear hK K
              refine plan_pure rfl rfl (fun K hK => ?_); go_simp; refine hK _ ?_; clear hK K
              refine plan_pure rfl rfl (fun K hK => ?_); go_simp; refine hK _ ?_; clear hK K
              refine plan_pure rfl rfl (fun K hK => ?_); go_simp; refine hK _ ?_; clear hK K
              refine plan_pure rfl rfl (fun K hK => ?_); go_simp; refine hK _ ?_; clear hK K
              refine plan_l rfl rfl rfl (fun K hK => ?_); go_simp
              refine hK _ _ (fun h => absurd h (by decide)) ?_; clear hK K
              refine plan_end ?_
              go_wp2_with (first
                | (go_at_call 104; with_reducible refine (turn_at _ 2 2 rfl ha (by decide) (by decide) _).mono ?_; rintro e' w' ⟨rfl, nq, rfl⟩)
                | (go_at_call 104; with_reducible refine (turn_at _ 13 13 rfl ha (by decide) (by decide) _).mono ?_; rintro e' w' ⟨rfl, nq, rfl⟩)
                | (go_at_call 104; with_reducible refine (turn_at _ 22 22 rfl ha (by decide) (by decide) _).mono ?_; rintro e' w' ⟨rfl, nq, rfl⟩))
              go_roundw
              case rel => exact ⟨t + 1, by omega, by go_num, by rw [← HN.out]; exact val_u32 (a_int a b c' d e f g h (wAt ks t) (wAt Wd t) ha hb' hc he hf hg), by rw [← HN.out]; rfl, by rw [← HN.out]; rfl, by rw [← HN.out]; rfl,
                by rw [← HN.out]; exact val_u32 (e_int a b c' d e f g h (wAt ks t) (wAt Wd t) he hf hg), by rw [← HN.out]; rfl, by rw [← HN.out]; rfl, by rw [← HN.out]; rfl, hAr.drewN _⟩
              case measure => simp [intOf]; omega
            · obtain rfl : t = 64 := by omega
              obtain ⟨S, hS⟩ : ∃ S, S = rounds Wd (St.of st) 64 := ⟨_, rfl⟩
              rw [← hS] at HC ⊢
              obtain ⟨R, hR⟩ : ∃ R, R = S.list := ⟨_, rfl⟩
              have hRl : R.length = 8 := by rw [hR]; rfl
              have HRc := Lib.hid (show (wc R).toArray = #[.int .u32 (S.a : Nat), .int .u32 (S.b : Nat), .int .u32 (S.c : Nat), .int .u32 (S.d : Nat), .int .u32 (S.e : Nat), .int .u32 (S.f : Nat), .int .u32 (S.g : Nat), .int .u32 (S.h : Nat)] by rw [hR]; rfl)
              rw [← hR] at HC
              have HR := Lib.hid hRl
              clear hS hR hRl
              have hAh := hAr.add hrow hbn
              have HCS := Lib.hid (show splice cs so (wc (cur st R 0)) = cs by rw [cur_zero st R hl]; exact splice_self (by rw [wc_length, hl]; exact hst))
              replace hAh : At w [(n, 158, filled Wd), (hb, T, splice cs so (wc (cur st R 0)))] wr := by rw [HCS.out]; exact hAh
              go_wp2
              go_loopw [206] (fun i wr => ∃ k : Nat, k ≤ 8 ∧ i = .int .i64 k ∧ At w [(n, 158, filled Wd), (hb, T, splice cs so (wc (cur st R k)))] wr) (fun i _ => 8 - (intOf i).toNat)
              case atStart => exact ⟨0, by omega, rfl, hAh⟩
              case round =>
                clear hAh hAr
                obtain ⟨k, hk, rfl, hAr⟩ := hrel
                have HLn := Lib.hid (show (splice cs so (wc (cur st R k))).length = cs.length from splice_length (by rw [wc_length, cur_length]; exact hso))
                by_cases hlt : k < 8
                · have Hat := Lib.hid (show (splice cs so (wc (cur st R k)))[so + k]? = some (.int .u32 (wAt st k : Nat)) by rw [splice_at (by rw [wc_length, cur_length]; exact hso) (by rw [wc_length, cur_length]; exact hlt)]; exact cur_at st R k hlt)
                  have Hstep := Lib.hid (show (splice cs so (wc (cur st R k))).set (so + k) (.int .u32 (add32 (wAt st k) (wAt R k) : Nat)) = splice cs so (wc (cur st R (k + 1))) by rw [splice_set _ (by rw [wc_length, cur_length]; exact hso) (by rw [wc_length, cur_length]; exact hlt), cur_step st R k hlt])
                  have hki : (k : Int) < 8 := by omega
                  have Hv : Hid ((#[.int .u32 (S.a : Nat), .int .u32 (S.b : Nat), .int .u32 (S.c : Nat), .int .u32 (S.d : Nat), .int .u32 (S.e : Nat), .int .u32 (S.f : Nat), .int .u32 (S.g : Nat), .int .u32 (S.h : Nat)] : Array Value)[k]? = some (.int .u32 (wAt R k : Nat))) := by
                    rw [← HRc.out]; exact (show (wc R).toArray[k]? = some (.int .u32 (wAt R k : Nat)) from by simp [wc, wAt, HR.out, hlt])
                  go_wp2_with (first
                    | (with_reducible refine at_index rfl ?_
                       refine wpList_plain rfl (fun _ hK => wp_indexArr rfl Tryd.underlying134 (by kernel_rfl) size80 rfl rfl hlt Hv.out (hK _ _ ?_)); clear hK))
                  haveI : Nonempty { x : World // At w [(n, 158, filled Wd), (hb, T, splice cs so (wc (cur st R k)))] x } := ⟨⟨_, hAr⟩⟩
                  refine wp_region_plan 9 [9] [0,1,2,3,4,5,6,7,8,9] (At w [(n, 158, filled Wd), (hb, T, splice cs so (wc (cur st R k)))]) (by kernel_rfl) (by kernel_rfl) (hAr.drew) ?_
                  refine plan_pure rfl rfl (fun K hK => ?_); go_simp; refine hK _ ?_; clear hK K
                  refine plan_pure rfl rfl (fun K hK => ?_); go_simp; refine hK _ ?_; clear hK K
                  refine plan_pure rfl rfl (fun K hK => ?_); go_simp; refine hK _ ?_; clear hK K
                  refine plan_pure rfl rfl (fun K hK => ?_); go_simp; refine hK _ ?_; clear hK K
                  refine plan_q rfl rfl rfl _ (fun x hx => run_load1_at rfl hx (off := so + k) rfl 1 rfl Hat.out (by kernel_rfl)) ?_
                  refine plan_pure rfl rfl (fun K hK => ?_); go_simp; refine hK _ ?_; clear hK K
                  refine plan_pure rfl rfl (fun K hK => ?_); go_simp; refine hK _ ?_; clear hK K
                  refine plan_pure rfl rfl (fun K hK => ?_); go_simp; refine hK _ ?_; clear hK K
                  refine plan_pure rfl rfl (fun K hK => ?_); go_simp; refine hK _ ?_; clear hK K
                  refine plan_l rfl rfl rfl (fun K hK => wp_store1 (off := so + k) rfl hAr.drew rfl (val_u32 (sum_int _ _)) 1 rfl (by rw [HLn.out]; omega) rfl size80 (fun w4 hA4 => hK _ _ (fun h => absurd h (by decide)) ?_))
                  replace hA4 : At w [(n, 158, filled Wd), (hb, T, splice cs so (wc (cur st R (k + 1))))] w4 := by rw [← Hstep.out]; exact hA4
                  refine plan_end ?_
                  go_wp2
                  go_roundw
                  case rel =>
                    refine ⟨_, _, _, _, _, _, _, _, _, _, _, _, _, _, _, _, ?_, rfl⟩
                    exact ⟨k + 1, by omega, by go_num, hA4⟩
                  case measure => simp [intOf]; omega
                · obtain rfl : k = 8 := by omega
                  replace hAr : At w [(n, 158, filled Wd), (hb, T, splice cs so (wc (compress st bs)))] wr := by rw [← HC.out, ← cur_end]; exact hAr
                  go_wp2
                  go_end0
                  exact ⟨rfl, hAr.drop (List.Sublist.cons _ (List.Sublist.refl _)) (fun r hr hlt' => by
                    simp only [List.mem_cons, List.not_mem_nil, or_false] at hr
                    rcases hr with rfl | rfl
                    · simp only at hlt'; omega
                    · simp)⟩
end Go.Proofs.YtpomngkcfbnjoaaDoor

/- The walks of begin, New, Write, Sum, Fork: a hasher. -/
namespace Go.Proofs.YtpomngkcfbnjoaaDoor
open Go.RowKit Go.Dk

theorem zero82 : zeroIs Tryd.prog 143 (.agg (wc (List.replicate 8 0)).toArray) := by unfold zeroIs; kernel_rfl
theorem row82 : isRow Tryd.prog 143 8 = true := by kernel_rfl
theorem size82 : (Tryd.prog.info? 143).map (·.size) = some 8 := by kernel_rfl
theorem row87 : isRow Tryd.prog 147 73 = true := by kernel_rfl
theorem build_begin (w : World) : (Instr.build 143 #[(0, .int .u32 1779033703), (1, .int .u32 3144134277), (2, .int .u32 1013904242), (3, .int .u32 2773480762), (4, .int .u32 1359893119), (5, .int .u32 2600822924), (6, .int .u32 528734635), (7, .int .u32 1541459225)]).run Tryd.prog w = .ok (.agg (wc init8).toArray) w := by kernel_rfl
theorem build_new (w : World) : (Instr.build 147 #[(0, .agg (wc init8).toArray)]).run Tryd.prog w = .ok (.agg (hcells init8 (List.replicate 64 0) 0).toArray) w := by kernel_rfl
theorem wc_one (D : List Nat) : ∀ v ∈ (wc D).toArray, v.oneCell' = true := by
  intro v hv
  simp only [wc, List.mem_toArray, List.mem_map] at hv
  obtain ⟨b, _, rfl⟩ := hv
  rfl

set_option maxRecDepth 100000 in
set_option maxHeartbeats 400000 in
theorem begin_any (w : World) : Calls Tryd.prog 90 #[] w fun e w' => e = .returned (.agg (wc init8).toArray) ∧ At w [] w' := by
  have hA0 := At.refl w
  go_enter Tryd.func90, Tryd.ntmps90
  go_wp2_with (first
    | (with_reducible refine at_alloc rfl ?_
       refine wpList_plain rfl (fun _ hK => wp_alloc rfl hA0 zero82 (fun n w1 hn hA1 => hK _ _ ?_)); clear hK
       replace hA1 : At w [(n, 143, wc (List.replicate 8 0))] w1 := hA1)
    | (with_reducible refine at_build rfl ?_
       refine wpList_plain rfl (fun _ hK => wp_build rfl (build_begin _) (hK _ _ ?_)); clear hK)
    | (with_reducible refine at_store rfl ?_
       refine wpList_plain rfl (fun _ hK => wp_storeRow (off := 0) (new := (wc init8).toArray) rfl hA1 rfl rfl 0 rfl (by decide) (wc_one _) (by rw [size82]; rfl) (fun w2 hA2 => hK _ _ ?_)); clear hK
       replace hA2 : At w [(n, 143, wc init8)] w2 := hA2))
  refine bodyPost_ret (results_cell Tryd.results90 hA2 rfl 0 rfl row82) rfl ⟨rfl, hA2.clear (fun r hr => ?_)⟩
  simp only [List.mem_cons, List.not_mem_nil, or_false] at hr
  subst hr
  exact hn

/-- a new hasher that has taken m -/
def NewH (w : World) (m : List UInt8) (e : Ending) (w' : World) : Prop := ∃ n cs, e = .returned (.pointer (some ⟨n, 0, none⟩)) ∧ w.heap.size ≤ n ∧ HS m cs ∧ At w [(n, 147, cs)] w'

set_option maxRecDepth 100000 in
set_option maxHeartbeats 400000 in
theorem new_any (w : World) : Calls Tryd.prog 61 #[] w (NewH w []) := by
  have hA0 := At.refl w
  go_enter Tryd.func61, Tryd.ntmps61
  go_wp2_with (first
    | (go_at_call 90
       refine (begin_any _).mono ?_
       rintro e w1 ⟨rfl, hc⟩
       have hA1 := hA0.then0 hc
       clear hc)
    | (with_reducible refine at_build rfl ?_
       refine wpList_plain rfl (fun _ hK => wp_build rfl (build_new _) (hK _ _ ?_)); clear hK)
    | (with_reducible refine at_box rfl ?_
       refine wpList_plain rfl (fun _ hK => wp_box (v := .agg (hcells init8 (List.replicate 64 0) 0).toArray) rfl hA1 rfl (fun n w2 hn hA2 => hK _ _ ?_)); clear hK
       replace hA2 : At w [(n, 147, hcells init8 (List.replicate 64 0) 0)] w2 := hA2))
  go_ret
  have h1 := hA1.size
  exact ⟨n, _, rfl, by omega, HS.new, hA2⟩
end Go.Proofs.YtpomngkcfbnjoaaDoor

/- The walk of Write: a piece taken by a hasher. -/
namespace Go.Proofs.YtpomngkcfbnjoaaDoor
open Go.RowKit Go.Dk

theorem Tab.at_ {w0 w : World} {L : List Row} (h : Tab w0) (hA : At w0 L w) (hn : 0 ∉ L.map (·.1)) : Tab w := fun i hi => by
  rw [hA.old h.lt hn]; exact h i hi
theorem size5 : (Tryd.prog.info? 5).map (·.size) = some 1 := by kernel_rfl
theorem size85 : (Tryd.prog.info? 129).map (·.size) = some 1 := by kernel_rfl
theorem no85 : notRow Tryd.prog 129 = true := by kernel_rfl
theorem val_u64 {a b : Int} (h : a = b) : Value.int .u64 a = .int .u64 b := by rw [h]
def Wrote (w : World) (hb : Nat) (m : List UInt8) (e : Ending) (w' : World) : Prop := e = .returned (.tuple #[]) ∧ ∃ cs, HS m cs ∧ At w [(hb, 147, cs)] w'

/-- one block taken in, by a hasher -/
theorem take_row (w0 x : World) (hb : Nat) (st : List Nat) (rest : List UInt8) (n : Nat) (hA : At w0 [(hb, 147, hcells st rest n)] x) (hst : st.length = 8) (hlt : ∀ y ∈ st, y < 4294967296) (hr : rest.length = 64)
    (A : Option Addr) (bs : List UInt8) (c : Nat) (hB : Bts x A bs) (hl : bs.length = 64) (hT : Tab x) :
    Calls Tryd.prog 91 #[.pointer (some ⟨hb, 0, none⟩), .slice A 64 c] x fun e w' => e = .returned (.tuple #[]) ∧ At w0 [(hb, 147, hcells (compress st bs) rest n)] w' := by
  obtain ⟨pb, po, rfl, hpb, hcell⟩ := hB (fun e => by rw [e] at hl; exact absurd hl (by decide))
  have hrow : x.heap[hb]? = some (.cells (hcells st rest n).toArray 147 (0, 0)) := hA.row (k := 0) rfl
  refine (take_any x hb 0 147 _ st hrow (hcells_st hst) hst hlt (by rw [hcells_length hst hr]; decide) pb po c bs
    (fun i hi => (hA.cell (k := 0) rfl _).trans (hcells_st_at hst hi)) (fun i hi => hcell i (by omega)) hpb hT).mono ?_
  rintro e w' ⟨he, hA'⟩
  refine ⟨he, ?_⟩
  rw [hcells_put_st hst (compress_length _ _)] at hA'
  exact hA.then1 (k := 0) rfl hA'
set_option maxRecDepth 100000 in
set_option maxHeartbeats 8000000 in
theorem write_any (w : World) (hb : Nat) (m : List UInt8) (cs : List Value) (hH : HS m cs) (hrow : w.heap[hb]? = some (.cells cs.toArray 147 (0, 0))) (A : Option Addr) (l : List UInt8) (c : Nat)
    (hr : Bts w A l) (hc : l.length ≤ c) (hoff : Off A hb) (hsz : m.length + l.length < 1152921504606846976) (hT : Tab w) (hb0 : hb ≠ 0) :
    Calls Tryd.prog 62 #[.pointer (some ⟨hb, 0, none⟩), .slice A l.length c] w (Wrote w hb (m ++ l)) := by
  obtain ⟨rest, hrl, hrt, rfl⟩ := hH
  have hA0 := At.start1 hrow
  have hTa : ∀ (L : List Value) (x : World), At w [(hb, 147, L)] x → Tab x := fun L x hx => hT.at_ hx (by simpa using hb0.symm)
  by_cases h0 : m.length % 64 = 0
  · have e1 : (m.length : Int) % 64 = 0 := by omega
    have HN0 := Lib.hid (hcells_n (n := m.length) (blocks_length (m.length / 64) init8 m rfl) hrl)
    have H0 := Lib.hid h0
    have Hrl := Lib.hid hrl
    obtain ⟨m1, Hm1⟩ : ∃ m1, Hid (m1 = m) := ⟨m, rfl⟩
    obtain ⟨l1, Hl1⟩ : ∃ l1, Hid (l1 = l) := ⟨l, rfl⟩
    clear hrl h0 hrt hrow
    go_enter Tryd.func62, Tryd.ntmps62
    go_wp2_with (first
      | (with_reducible refine at_load rfl ?_
         refine wpList_plain rfl (fun _ hK => wp_load1 (off := 72) rfl hA0 rfl 0 rfl HN0.out no85 (hK _ _ ?_)); clear hK))
    have hE : Hid (m1 ++ l1 = m ++ l) := by rw [Hm1.out, Hl1.out]; exact rfl
    have HM0 : Hid (m1.length % 64 = 0) := by rw [Hm1.out]; exact H0.out
    have hsz1 : m1.length + l1.length < 1152921504606846976 := by rw [Hm1.out, Hl1.out]; exact hsz
    obtain ⟨R1, HR1e⟩ : ∃ R1, Hid (R1 = rest) := ⟨rest, rfl⟩
    have HR1 : Hid (R1.length = 64) := by rw [HR1e.out]; exact Hrl.out
    obtain ⟨r0, A0, c0, hrc0, hlr0, hB0, hO0, hA1, hp0⟩ : ∃ r A' c', r ≤ c' ∧ Hid (l1.length = 64 * 0 + r) ∧ Bts w A' (l1.drop (64 * 0)) ∧ Off A' hb ∧ At w [(hb, 147, hcells (blocks (m1.length / 64 + 0) init8 (m1 ++ l1)) R1 (m1.length + 64 * 0))] w ∧ Hid (Value.slice A l.length c = .slice A' r c') := by
      rw [Hm1.out, Hl1.out, HR1e.out]
      refine ⟨l.length, A, c, hc, Lib.hid (by omega), by simpa using hr, hoff, ?_, rfl⟩
      rw [Nat.add_zero, Nat.mul_zero, Nat.add_zero, blocks_prefix _ _ _ _ (by omega)]
      exact hA0
    clear hA0 e1
    rw [hp0.out]
    go_loopw [1] (fun p wr => ∃ j r A' c', Hid (l1.length = 64 * j + r) ∧ p = .slice A' r c' ∧ r ≤ c' ∧ Bts w A' (l1.drop (64 * j)) ∧ Off A' hb ∧ At w [(hb, 147, hcells (blocks (m1.length / 64 + j) init8 (m1 ++ l1)) R1 (m1.length + 64 * j))] wr) (fun p _ => lenV p)
    case atStart => exact ⟨0, r0, A0, c0, hlr0, rfl, hrc0, hB0, hO0, hA1⟩
    case round =>
      clear hA1 hB0 hO0 hrc0 hlr0 hp0
      obtain ⟨j, r, A', c', hlr, rfl, hrc, hB, hO, hAr⟩ := hrel
      by_cases h64 : 64 ≤ r
      · have h64i : (64 : Int) ≤ r := by omega
        have hle64 : 64 ≤ c' := by omega
        go_wp2
        haveI : Nonempty { x : World // At w [(hb, 147, hcells (blocks (m1.length / 64 + j) init8 (m1 ++ l1)) R1 (m1.length + 64 * j))] x } := ⟨⟨_, hAr⟩⟩
        refine wp_region_plan 5 [5] [0,1,2,3,4,5] (At w [(hb, 147, hcells (blocks (m1.length / 64 + j) init8 (m1 ++ l1)) R1 (m1.length + 64 * j))]) (by kernel_rfl) (by kernel_rfl) (hAr.drew) ?_
        refine plan_pure rfl rfl (fun K hK => ?_); go_simp; refine hK _ ?_; clear hK K
        refine plan_pure rfl rfl (fun K hK => ?_); go_simp; refine hK _ ?_; clear hK K
        refine plan_pure rfl rfl (fun K hK => ?_); go_simp; refine hK _ ?_; clear hK K
        refine plan_pure rfl rfl (fun K hK => ?_); go_simp; refine hK _ ?_; clear hK K
        refine plan_q rfl rfl rfl (.slice A' 64 c') (fun x hx => run_sliceSl rfl Tryd.underlying59 size5 rfl 0 64 (by exact boundIs_none 0) (by exact boundIs_int _ _ _ _ rfl) (by decide) hle64 (by rw [sub_zero]; rfl)) ?_
        refine plan_l rfl rfl rfl (fun K hK => ?_); go_simp
        refine (take_row w _ hb _ _ _ hAr.drew (blocks_length _ _ _ rfl) (blocks_lt _ _ _ init8_lt) HR1.out _ ((l1.drop (64 * j)).take 64) c' (((hB.take 64).at_ hAr (by simpa using hO)).drew 1) (by rw [List.length_take, List.length_drop]; have := hlr.out; omega) (hTa _ _ hAr.drew)).mono ?_
        rintro e' w5 ⟨rfl, hA5⟩
        go_simp
        refine hK _ _ (fun h => absurd h (by decide)) ?_; clear hK K
        refine plan_end ?_
        have Hbm := Lib.hid (block_more m1 l1 j HM0.out)
        have hA6 : At w [(hb, 147, hcells (blocks (m1.length / 64 + (j + 1)) init8 (m1 ++ l1)) R1 (m1.length + 64 * j))] w5 := by rw [← Hbm.out]; exact hA5
        have HNj := Lib.hid (hcells_n (n := m1.length + 64 * j) (blocks_length (m1.length / 64 + (j + 1)) init8 (m1 ++ l1) rfl) HR1.out)
        have HSj := Lib.hid (hcells_set_n (n := m1.length + 64 * j) (n' := m1.length + 64 * (j + 1)) (blocks_length (m1.length / 64 + (j + 1)) init8 (m1 ++ l1) rfl) HR1.out)
        have HLj := Lib.hid (hcells_length (n := m1.length + 64 * j) (blocks_length (m1.length / 64 + (j + 1)) init8 (m1 ++ l1) rfl) HR1.out)
        have hsj : m1.length + 64 * j + 64 < 18446744073709551616 := by have := hlr.out; omega
        clear hA5
        go_wp2_with (first
          | (with_reducible refine at_load rfl ?_
             refine wpList_plain rfl (fun _ hK => wp_load1 (off := 72) rfl hA6 rfl 0 rfl HNj.out no85 (hK _ _ ?_)); clear hK)
          | (with_reducible refine at_store rfl ?_
             refine wpList_plain rfl (fun _ hK => wp_store1 (off := 72) rfl hA6 rfl (v := .int .u64 ((m1.length + 64 * (j + 1) : Nat) : Int)) (val_u64 (by omega)) 0 rfl (by rw [HLj.out]; decide) rfl size85 (fun w7 hA7 => hK _ _ ?_)); clear hK
             replace hA7 : At w [(hb, 147, hcells (blocks (m1.length / 64 + (j + 1)) init8 (m1 ++ l1)) R1 (m1.length + 64 * (j + 1)))] w7 := by rw [← HSj.out]; exact hA7)
          | (with_reducible refine at_slice rfl ?_
             refine wpList_plain rfl (fun _ hK => wp_sliceSl (l := 64) (h := r) rfl Tryd.underlying59 size5 rfl (boundIs_int _ _ _ _ rfl) (boundIs_none r) h64 hrc (hK _ _ ?_)); clear hK))
        go_roundw
        case rel =>
          refine ⟨j + 1, r - 64, sub A' 64 c' 1, c' - 64, Lib.hid (by have := hlr.out; omega), rfl, by omega, ?_, hO.sub, hA7⟩
          have h8 := hB.drop 64 (cap := c') (by rw [List.length_drop]; have := hlr.out; omega)
          rw [List.drop_drop, show 64 * j + 64 = 64 * (j + 1) by omega] at h8
          exact h8
        case measure => simp [lenV]; omega
      · have h64i : (r : Int) < 64 := by omega
        go_wp2
        obtain ⟨N1, HN1⟩ : ∃ n, Hid (n = m1.length + 64 * j) := ⟨_, rfl⟩
        obtain ⟨l', Hl'⟩ : ∃ x, Hid (x = l1.drop (64 * j)) := ⟨_, rfl⟩
        have Hr' : Hid (l'.length = r) := by rw [Hl'.out]; exact (by rw [List.length_drop]; have := hlr.out; omega : (l1.drop (64 * j)).length = r)
        have hB' : Bts w A' l' := by rw [Hl'.out]; exact hB
        rw [← HN1.out] at hAr
        have hl64 : l'.length < 64 := by have := Hr'.out; omega
        have hN64 : N1 + l'.length < 1152921504606846976 := by have h7 := HN1.out; have h8 := hlr.out; have h9 := Hr'.out; omega
        have HNj := Lib.hid (hcells_n (n := N1) (blocks_length (m1.length / 64 + j) init8 (m1 ++ l1) rfl) HR1.out)
        have Hpj := Lib.hid (hcells_put (n := N1) (st := blocks (m1.length / 64 + j) init8 (m1 ++ l1)) (rest := R1) (o := 0) (l := l') (blocks_length _ _ _ rfl) HR1.out (by omega))
        have Hpl2 : Hid ((put R1 0 l').length = 64) := by
          have h7 := HR1.out
          exact (by rw [put_length (by omega), h7] : (put R1 0 l').length = 64)
        have HLj := Lib.hid (hcells_length (n := N1) (blocks_length (m1.length / 64 + j) init8 (m1 ++ l1) rfl) HR1.out)
        have HLj2 := Lib.hid (hcells_length (n := N1) (blocks_length (m1.length / 64 + j) init8 (m1 ++ l1) rfl) Hpl2.out)
        have HNj2 := Lib.hid (hcells_n (n := N1) (blocks_length (m1.length / 64 + j) init8 (m1 ++ l1) rfl) Hpl2.out)
        have HSj := Lib.hid (hcells_set_n (n := N1) (n' := N1 + l'.length) (blocks_length (m1.length / 64 + j) init8 (m1 ++ l1) rfl) Hpl2.out)
        have e2 : IntKind.u64.wrap ((N1 : Int) + (l'.length : Int)) = (N1 : Int) + l'.length := by rw [IntKind.wrap_u64]; omega
        have e3 : IntKind.u64.wrap (l'.length : Int) = l'.length := by rw [IntKind.wrap_u64]; omega
        haveI : Nonempty { x : World // (fun x : World => x.cell? ⟨hb, 72, none⟩ = some (.int .u64 (N1 : Int))) x } := ⟨⟨_, (hAr.cell (k := 0) rfl 72).trans HNj.out⟩⟩
        refine wp_region_plan 14 [9,14] [0,1,2,3,4,5,6,7,8,9,10,11,12,13,14] (fun x : World => x.cell? ⟨hb, 72, none⟩ = some (.int .u64 (N1 : Int))) (by kernel_rfl) (by kernel_rfl) ((hAr.drew.cell (k := 0) rfl 72).trans HNj.out) ?_
        refine plan_pure rfl rfl (fun K hK => ?_); go_simp; refine hK _ ?_; clear hK K
        refine plan_pure rfl rfl (fun K hK => ?_); go_simp; refine hK _ ?_; clear hK K
        refine plan_pure rfl rfl (fun K hK => ?_); go_simp; refine hK _ ?_; clear hK K
        refine plan_q rfl rfl rfl _ (fun x hx => run_load_cell rfl rfl hx no85) ?_
        refine plan_pure rfl rfl (fun K hK => ?_); go_simp; refine hK _ ?_; clear hK K
        refine plan_pure rfl rfl (fun K hK => ?_); go_simp; refine hK _ ?_; clear hK K
        refine plan_pure rfl rfl (fun K hK => ?_); go_simp; refine hK _ ?_; clear hK K
        refine plan_q rfl rfl rfl (.slice (some ⟨hb, 8, none⟩) 64 64) (fun x hx => run_sliceArr rfl Tryd.underlying145 size5 rfl 0 64 (by exact boundIs_none 0) (by exact boundIs_none 64) (by decide) (by decide) (by rw [sub_zero])) ?_
        refine plan_pure rfl rfl (fun K hK => ?_); go_simp; refine hK _ ?_; clear hK K
        refine plan_l rfl rfl rfl (fun K hK => wp_copy (l := l') rfl hAr.drew Tryd.underlying59 size5 rfl rfl (by rw [Hr'.out]; exact (Nat.min_eq_left (by omega)).symm) ((hB'.at_ hAr (by simpa using hO)).drew 1) 0 rfl (fun _ => rfl) (by rw [HLj.out]; omega) (fun w8 hA8 => hK _ _ (fun _ => (hA8.cell (k := 0) rfl 72).trans (by rw [Hpj.out]; exact HNj2.out)) ?_))
        clear hK K
        replace hA8 : At w [(hb, 147, hcells (blocks (m1.length / 64 + j) init8 (m1 ++ l1)) (put R1 0 l') N1)] w8 := by rw [← Hpj.out]; exact hA8
        refine plan_pure rfl rfl (fun K hK => ?_); go_simp; refine hK _ ?_; clear hK K
        refine plan_pure rfl rfl (fun K hK => ?_); go_simp; refine hK _ ?_; clear hK K
        refine plan_pure rfl rfl (fun K hK => ?_); go_simp; refine hK _ ?_; clear hK K
        refine plan_pure rfl rfl (fun K hK => ?_); go_simp; refine hK _ ?_; clear hK K
        refine plan_l rfl rfl rfl (fun K hK => wp_store1 (off := 72) rfl hA8 rfl (v := .int .u64 ((N1 + l'.length : Nat) : Int)) (val_u64 (by omega)) 0 rfl (by rw [HLj2.out]; decide) rfl size85 (fun w9 hA9 => hK _ _ (fun h => absurd h (by decide)) ?_))
        clear hK K
        replace hA9 : At w [(hb, 147, hcells (blocks (m1.length / 64 + j) init8 (m1 ++ l1)) (put R1 0 l') (N1 + l'.length))] w9 := by rw [← HSj.out]; exact hA9
        refine plan_end ?_
        clear e2 e3
        have hlr2 : Hid (m1 ++ l1 = m1 ++ l1.take (64 * j) ++ l') := by rw [Hl'.out, List.append_assoc, List.take_append_drop]; exact rfl
        have hln : (m1 ++ l1.take (64 * j)).length = N1 := by rw [HN1.out, List.length_append, List.length_take]; have := hlr.out; omega
        have h0' := HM0.out
        have h9 := HS.tail (m1 ++ l1.take (64 * j)) l' R1 HR1.out (by rw [hln, HN1.out]; omega) hl64
        have h10 : N1 / 64 = m1.length / 64 + j := by rw [HN1.out]; omega
        rw [← hlr2.out, hln, h10, hE.out] at h9
        have h11 : blocks (m1.length / 64 + j) init8 (m1 ++ l1) = blocks (m1.length / 64 + j) init8 (m1 ++ l1.take (64 * j)) := by
          rw [hlr2.out]; exact blocks_prefix _ _ _ _ (by rw [hln, ← h10]; omega)
        rw [← h11] at h9
        go_wp2
        refine bodyPost_end (results_none rfl _ _ _) rfl ?_
        exact ⟨rfl, _, h9, hA9⟩
  · obtain ⟨q, hq⟩ : ∃ q : Nat, q = m.length % 64 := ⟨_, rfl⟩
    have hq0 : 0 < q := by omega
    have hq1 : q < 64 := by omega
    have e1 : (m.length : Int) % 64 = q := by omega
    obtain ⟨l0, lx, hle, hl0⟩ : ∃ l0 lx, l = l0 ++ lx ∧ l0.length = min l.length (64 - q) := ⟨l.take (64 - q), l.drop (64 - q), (List.take_append_drop _ _).symm, by rw [List.length_take]; omega⟩
    have hlen : l.length = l0.length + lx.length := by rw [hle, List.length_append]
    have HN0 := Lib.hid (hcells_n (n := m.length) (blocks_length (m.length / 64) init8 m rfl) hrl)
    have HB0 : Bts w A l0 := by have := hr.take l0.length; rw [hle, List.take_left'] at this; exact this; rfl
    have HBx : Bts w (sub A l0.length c 1) lx := by have := hr.drop l0.length hc; rw [hle, List.drop_left'] at this; exact this; rfl
    have Hput := Lib.hid (hcells_put (n := m.length) (st := blocks (m.length / 64) init8 m) (rest := rest) (o := q) (l := l0) (blocks_length _ _ _ rfl) hrl (by omega))
    have Hpl : (put rest q l0).length = 64 := by rw [put_length (by omega), hrl]
    have HN1 := Lib.hid (hcells_n (n := m.length) (blocks_length (m.length / 64) init8 m rfl) Hpl)
    have HS1 := Lib.hid (hcells_set_n (n := m.length) (n' := m.length + l0.length) (blocks_length (m.length / 64) init8 m rfl) Hpl)
    have HPl := Lib.hid Hpl
    have Hll := Lib.hid (hcells_length (n := m.length) (blocks_length (m.length / 64) init8 m rfl) hrl)
    have Hll1 := Lib.hid (hcells_length (n := m.length) (blocks_length (m.length / 64) init8 m rfl) Hpl)
    have Hl0 := Lib.hid hl0
    have Hlen := Lib.hid hlen
    have Hrl := Lib.hid hrl
    have Hrt := Lib.hid hrt
    have Hle := Lib.hid hle
    have hk1 : l0.length ≤ 64 - q := by omega
    have hk2 : l0.length ≤ l.length := by omega
    have hk3 : q + l0.length < 64 → lx = [] := fun h => List.eq_nil_of_length_eq_zero (by omega)
    have Hk3 := Lib.hid hk3
    have Hq := Lib.hid hq
    have hqi : (0 : Int) < q := by omega
    clear hrl h0 hrt hrow hl0 hlen hle hk3 Hpl hq
    by_cases hfull : q + l0.length < 64
    · have hfi : (q : Int) + l0.length < 64 := by omega
      go_enter Tryd.func62, Tryd.ntmps62
      go_wp2_with (first
        | (with_reducible refine at_load rfl ?_
           refine wpList_plain rfl (fun _ hK => wp_load1 (off := 72) rfl hA0 rfl 0 rfl HN0.out no85 (hK _ _ ?_)); clear hK)
        | (with_reducible refine at_slice rfl ?_
           refine wpList_plain rfl (fun _ hK => wp_sliceArr (l := q) (h := 64) rfl Tryd.underlying145 size5 rfl (boundIs_some _ _ _) (boundIs_none 64) (by omega) (Nat.le_refl _) (hK _ _ ?_)); clear hK
           rw [sub_lt hq1])
        | (with_reducible refine at_bin (b := .copy) rfl ?_
           refine wpList_plain rfl (fun _ hK => wp_copy (l := l0) rfl hA0 Tryd.underlying59 size5 rfl rfl Hl0.out HB0 0 rfl (fun _ => rfl) (by rw [Hll.out]; omega) (fun w2 hA2 => hK _ _ ?_)); clear hK
           replace hA2 : At w [(hb, 147, hcells (blocks (m.length / 64) init8 m) (put rest q l0) m.length)] w2 := by rw [← Hput.out]; exact hA2)
        | (with_reducible refine at_load rfl ?_
           refine wpList_plain rfl (fun _ hK => wp_load1 (off := 72) rfl hA2 rfl 0 rfl HN1.out no85 (hK _ _ ?_)); clear hK)
        | (with_reducible refine at_store rfl ?_
           refine wpList_plain rfl (fun _ hK => wp_store1 (off := 72) rfl hA2 rfl (v := .int .u64 ((m.length + l0.length : Nat) : Int)) (val_u64 (by omega)) 0 rfl (by rw [Hll1.out]; decide) rfl size85 (fun w3 hA3 => hK _ _ ?_)); clear hK
           replace hA3 : At w [(hb, 147, hcells (blocks (m.length / 64) init8 m) (put rest q l0) (m.length + l0.length))] w3 := by rw [← HS1.out]; exact hA3)
        | (with_reducible refine at_slice rfl ?_
           refine wpList_plain rfl (fun _ hK => wp_sliceSl (l := l0.length) (h := l.length) rfl Tryd.underlying59 size5 rfl (boundIs_some _ _ _) (boundIs_none l.length) hk2 hc (hK _ _ ?_)); clear hK))
      refine bodyPost_ret (results_none rfl _ _ _) rfl ?_
      refine ⟨rfl, _, ?_, hA3⟩
      have h4 := HS.part m l0 rest Hrl.out Hrt.out (by rw [← Hq.out]; exact hfull)
      rw [← Hq.out] at h4
      rw [Hle.out, Hk3.out hfull, List.append_nil]
      exact h4
    · have hfi : (64 : Int) ≤ (q : Int) + l0.length := by omega
      have hfe : q + l0.length = 64 := by omega
      obtain ⟨hF1, hF2⟩ := fills m l0 rest Hrl.out Hrt.out (by rw [← Hq.out]; exact hfe)
      rw [← Hq.out] at hF1
      have HF1 := Lib.hid hF1
      have HF2 := Lib.hid hF2
      clear hF1 hF2 hfe
      go_enter Tryd.func62, Tryd.ntmps62
      go_wp2_with (first
        | (with_reducible refine at_load rfl ?_
           refine wpList_plain rfl (fun _ hK => wp_load1 (off := 72) rfl hA0 rfl 0 rfl HN0.out no85 (hK _ _ ?_)); clear hK)
        | (with_reducible refine at_slice rfl ?_
           refine wpList_plain rfl (fun _ hK => wp_sliceArr (l := q) (h := 64) rfl Tryd.underlying145 size5 rfl (boundIs_some _ _ _) (boundIs_none 64) (by omega) (Nat.le_refl _) (hK _ _ ?_)); clear hK
           rw [sub_lt hq1])
        | (with_reducible refine at_bin (b := .copy) rfl ?_
           refine wpList_plain rfl (fun _ hK => wp_copy (l := l0) rfl hA0 Tryd.underlying59 size5 rfl rfl Hl0.out HB0 0 rfl (fun _ => rfl) (by rw [Hll.out]; omega) (fun w2 hA2 => hK _ _ ?_)); clear hK
           replace hA2 : At w [(hb, 147, hcells (blocks (m.length / 64) init8 m) (put rest q l0) m.length)] w2 := by rw [← Hput.out]; exact hA2)
        | (with_reducible refine at_load rfl ?_
           refine wpList_plain rfl (fun _ hK => wp_load1 (off := 72) rfl hA2 rfl 0 rfl HN1.out no85 (hK _ _ ?_)); clear hK)
        | (with_reducible refine at_store rfl ?_
           refine wpList_plain rfl (fun _ hK => wp_store1 (off := 72) rfl hA2 rfl (v := .int .u64 ((m.length + l0.length : Nat) : Int)) (val_u64 (by omega)) 0 rfl (by rw [Hll1.out]; decide) rfl size85 (fun w3 hA3 => hK _ _ ?_)); clear hK
           replace hA3 : At w [(hb, 147, hcells (blocks (m.length / 64) init8 m) (put rest q l0) (m.length + l0.length))] w3 := by rw [← HS1.out]; exact hA3)
        | (with_reducible refine at_slice rfl ?_
           refine wpList_plain rfl (fun _ hK => wp_sliceSl (l := l0.length) (h := l.length) rfl Tryd.underlying59 size5 rfl (boundIs_some _ _ _) (boundIs_none l.length) hk2 hc (hK _ _ ?_)); clear hK))
      have hTx := Lib.hid hTa
      haveI : Nonempty { x : World // At w [(hb, 147, hcells (blocks (m.length / 64) init8 m) (put rest q l0) (m.length + l0.length))] x } := ⟨⟨_, hA3⟩⟩
      refine wp_region_plan 7 [7] [0,1,2,3,4,5,6,7] (At w [(hb, 147, hcells (blocks (m.length / 64) init8 m) (put rest q l0) (m.length + l0.length))]) (by kernel_rfl) (by kernel_rfl) (hA3.drew) ?_
      refine plan_pure rfl rfl (fun K hK => ?_); go_simp; refine hK _ ?_; clear hK K
      refine plan_pure rfl rfl (fun K hK => ?_); go_simp; refine hK _ ?_; clear hK K
      refine plan_pure rfl rfl (fun K hK => ?_); go_simp; refine hK _ ?_; clear hK K
      refine plan_pure rfl rfl (fun K hK => ?_); go_simp; refine hK _ ?_; clear hK K
      refine plan_pure rfl rfl (fun K hK => ?_); go_simp; refine hK _ ?_; clear hK K
      refine plan_pure rfl rfl (fun K hK => ?_); go_simp; refine hK _ ?_; clear hK K
      refine plan_q rfl rfl rfl (.slice (some ⟨hb, 8, none⟩) 64 64) (fun x hx => run_sliceArr rfl Tryd.underlying145 size5 rfl 0 64 (by exact boundIs_none 0) (by exact boundIs_none 64) (by decide) (by decide) (by rw [sub_zero])) ?_
      refine plan_l rfl rfl rfl (fun K hK => ?_); go_simp
      refine (take_row w _ hb _ _ _ hA3.drew (blocks_length _ _ _ rfl) (blocks_lt _ _ _ init8_lt) HPl.out _ (put rest q l0) 64 (Bts.row hA3.drew (k := 0) rfl (hcells_rest (blocks_length _ _ _ rfl) HPl.out)) HPl.out (hTa _ _ hA3.drew)).mono ?_
      rintro e' w4 ⟨rfl, hA4⟩
      go_simp
      refine hK _ _ (fun h => absurd h (by decide)) ?_; clear hK K
      refine plan_end ?_
      go_wp2_with fail
      obtain ⟨m1, Hm1⟩ : ∃ m1, Hid (m1 = m ++ l0) := ⟨_, rfl⟩
      obtain ⟨l1, Hl1⟩ : ∃ l1, Hid (l1 = lx) := ⟨_, rfl⟩
      have hE : Hid (m1 ++ l1 = m ++ l) := by rw [Hm1.out, Hl1.out, Hle.out, List.append_assoc]; exact rfl
      have HM0 : Hid (m1.length % 64 = 0) := by rw [Hm1.out]; exact HF2.out
      have hsz1 : m1.length + l1.length < 1152921504606846976 := by rw [Hm1.out, Hl1.out, List.length_append]; have := Hlen.out; omega
      obtain ⟨R1, HR1e⟩ : ∃ R1, Hid (R1 = put rest q l0) := ⟨_, rfl⟩
      have HR1 : Hid (R1.length = 64) := by rw [HR1e.out]; exact HPl.out
      obtain ⟨r0, A0, c0, hrc0, hlr0, hB0, hO0, hA1, hp0⟩ : ∃ r A' c', r ≤ c' ∧ Hid (l1.length = 64 * 0 + r) ∧ Bts w A' (l1.drop (64 * 0)) ∧ Off A' hb ∧ At w [(hb, 147, hcells (blocks (m1.length / 64 + 0) init8 (m1 ++ l1)) R1 (m1.length + 64 * 0))] w4 ∧ Hid (Value.slice (sub A l0.length c 1) (l.length - l0.length) (c - l0.length) = .slice A' r c') := by
        have h5 := Hlen.out
        refine ⟨lx.length, sub A l0.length c 1, c - l0.length, by omega, Lib.hid (by rw [Hl1.out]; omega), by rw [Hl1.out]; simpa using HBx, hoff.sub, ?_, by rw [show l.length - l0.length = lx.length by omega]; exact rfl⟩
        have h6 := HM0.out
        rw [Nat.add_zero, Nat.mul_zero, Nat.add_zero, blocks_prefix _ _ _ _ (by omega), Hm1.out, ← HF1.out, HR1e.out, List.length_append]
        exact hA4
      clear hA4 hA3 hA2 hA0 e1 hfi
      rw [hp0.out]
      go_loopw [1] (fun p wr => ∃ j r A' c', Hid (l1.length = 64 * j + r) ∧ p = .slice A' r c' ∧ r ≤ c' ∧ Bts w A' (l1.drop (64 * j)) ∧ Off A' hb ∧ At w [(hb, 147, hcells (blocks (m1.length / 64 + j) init8 (m1 ++ l1)) R1 (m1.length + 64 * j))] wr) (fun p _ => lenV p)
      case atStart => exact ⟨0, r0, A0, c0, hlr0, rfl, hrc0, hB0, hO0, hA1⟩
      case round =>
        clear hA1 hB0 hO0 hrc0 hlr0 hp0
        obtain ⟨j, r, A', c', hlr, rfl, hrc, hB, hO, hAr⟩ := hrel
        by_cases h64 : 64 ≤ r
        · have h64i : (64 : Int) ≤ r := by omega
          have hle64 : 64 ≤ c' := by omega
          go_wp2
          haveI : Nonempty { x : World // At w [(hb, 147, hcells (blocks (m1.length / 64 + j) init8 (m1 ++ l1)) R1 (m1.length + 64 * j))] x } := ⟨⟨_, hAr⟩⟩
          refine wp_region_plan 5 [5] [0,1,2,3,4,5] (At w [(hb, 147, hcells (blocks (m1.length / 64 + j) init8 (m1 ++ l1)) R1 (m1.length + 64 * j))]) (by kernel_rfl) (by kernel_rfl) (hAr.drew) ?_
          refine plan_pure rfl rfl (fun K hK => ?_); go_simp; refine hK _ ?_; clear hK K
          refine plan_pure rfl rfl (fun K hK => ?_); go_simp; refine hK _ ?_; clear hK K
          refine plan_pure rfl rfl (fun K hK => ?_); go_simp; refine hK _ ?_; clear hK K
          refine plan_pure rfl rfl (fun K hK => ?_); go_simp; refine hK _ ?_; clear hK K
          refine plan_q rfl rfl rfl (.slice A' 64 c') (fun x hx => run_sliceSl rfl Tryd.underlying59 size5 rfl 0 64 (by exact boundIs_none 0) (by exact boundIs_int _ _ _ _ rfl) (by decide) hle64 (by rw [sub_zero]; rfl)) ?_
          refine plan_l rfl rfl rfl (fun K hK => ?_); go_simp
          refine (take_row w _ hb _ _ _ hAr.drew (blocks_length _ _ _ rfl) (blocks_lt _ _ _ init8_lt) HR1.out _ ((l1.drop (64 * j)).take 64) c' (((hB.take 64).at_ hAr (by simpa using hO)).drew 1) (by rw [List.length_take, List.length_drop]; have := hlr.out; omega) (hTa _ _ hAr.drew)).mono ?_
          rintro e' w5 ⟨rfl, hA5⟩
          go_simp
          refine hK _ _ (fun h => absurd h (by decide)) ?_; clear hK K
          refine plan_end ?_
          have Hbm := Lib.hid (block_more m1 l1 j HM0.out)
          have hA6 : At w [(hb, 147, hcells (blocks (m1.length / 64 + (j + 1)) init8 (m1 ++ l1)) R1 (m1.length + 64 * j))] w5 := by rw [← Hbm.out]; exact hA5
          have HNj := Lib.hid (hcells_n (n := m1.length + 64 * j) (blocks_length (m1.length / 64 + (j + 1)) init8 (m1 ++ l1) rfl) HR1.out)
          have HSj := Lib.hid (hcells_set_n (n := m1.length + 64 * j) (n' := m1.length + 64 * (j + 1)) (blocks_length (m1.length / 64 + (j + 1)) init8 (m1 ++ l1) rfl) HR1.out)
          have HLj := Lib.hid (hcells_length (n := m1.length + 64 * j) (blocks_length (m1.length / 64 + (j + 1)) init8 (m1 ++ l1) rfl) HR1.out)
          have hsj : m1.length + 64 * j + 64 < 18446744073709551616 := by have := hlr.out; omega
          clear hA5
          go_wp2_with (first
            | (with_reducible refine at_load rfl ?_
               refine wpList_plain rfl (fun _ hK => wp_load1 (off := 72) rfl hA6 rfl 0 rfl HNj.out no85 (hK _ _ ?_)); clear hK)
            | (with_reducible refine at_store rfl ?_
               refine wpList_plain rfl (fun _ hK => wp_store1 (off := 72) rfl hA6 rfl (v := .int .u64 ((m1.length + 64 * (j + 1) : Nat) : Int)) (val_u64 (by omega)) 0 rfl (by rw [HLj.out]; decide) rfl size85 (fun w7 hA7 => hK _ _ ?_)); clear hK
               replace hA7 : At w [(hb, 147, hcells (blocks (m1.length / 64 + (j + 1)) init8 (m1 ++ l1)) R1 (m1.length + 64 * (j + 1)))] w7 := by rw [← HSj.out]; exact hA7)
            | (with_reducible refine at_slice rfl ?_
               refine wpList_plain rfl (fun _ hK => wp_sliceSl (l := 64) (h := r) rfl Tryd.underlying59 size5 rfl (boundIs_int _ _ _ _ rfl) (boundIs_none r) h64 hrc (hK _ _ ?_)); clear hK))
          go_roundw
          case rel =>
            refine ⟨j + 1, r - 64, sub A' 64 c' 1, c' - 64, Lib.hid (by have := hlr.out; omega), rfl, by omega, ?_, hO.sub, hA7⟩
            have h8 := hB.drop 64 (cap := c') (by rw [List.length_drop]; have := hlr.out; omega)
            rw [List.drop_drop, show 64 * j + 64 = 64 * (j + 1) by omega] at h8
            exact h8
          case measure => simp [lenV]; omega
        · have h64i : (r : Int) < 64 := by omega
          go_wp2
          obtain ⟨N1, HN1⟩ : ∃ n, Hid (n = m1.length + 64 * j) := ⟨_, rfl⟩
          obtain ⟨l', Hl'⟩ : ∃ x, Hid (x = l1.drop (64 * j)) := ⟨_, rfl⟩
          have Hr' : Hid (l'.length = r) := by rw [Hl'.out]; exact (by rw [List.length_drop]; have := hlr.out; omega : (l1.drop (64 * j)).length = r)
          have hB' : Bts w A' l' := by rw [Hl'.out]; exact hB
          rw [← HN1.out] at hAr
          have hl64 : l'.length < 64 := by have := Hr'.out; omega
          have hN64 : N1 + l'.length < 1152921504606846976 := by have h7 := HN1.out; have h8 := hlr.out; have h9 := Hr'.out; omega
          have HNj := Lib.hid (hcells_n (n := N1) (blocks_length (m1.length / 64 + j) init8 (m1 ++ l1) rfl) HR1.out)
          have Hpj := Lib.hid (hcells_put (n := N1) (st := blocks (m1.length / 64 + j) init8 (m1 ++ l1)) (rest := R1) (o := 0) (l := l') (blocks_length _ _ _ rfl) HR1.out (by omega))
          have Hpl2 : Hid ((put R1 0 l').length = 64) := by
            have h7 := HR1.out
            exact (by rw [put_length (by omega), h7] : (put R1 0 l').length = 64)
          have HLj := Lib.hid (hcells_length (n := N1) (blocks_length (m1.length / 64 + j) init8 (m1 ++ l1) rfl) HR1.out)
          have HLj2 := Lib.hid (hcells_length (n := N1) (blocks_length (m1.length / 64 + j) init8 (m1 ++ l1) rfl) Hpl2.out)
          have HNj2 := Lib.hid (hcells_n (n := N1) (blocks_length (m1.length / 64 + j) init8 (m1 ++ l1) rfl) Hpl2.out)
          have HSj := Lib.hid (hcells_set_n (n := N1) (n' := N1 + l'.length) (blocks_length (m1.length / 64 + j) init8 (m1 ++ l1) rfl) Hpl2.out)
          have e2 : IntKind.u64.wrap ((N1 : Int) + (l'.length : Int)) = (N1 : Int) + l'.length := by rw [IntKind.wrap_u64]; omega
          have e3 : IntKind.u64.wrap (l'.length : Int) = l'.length := by rw [IntKind.wrap_u64]; omega
          haveI : Nonempty { x : World // (fun x : World => x.cell? ⟨hb, 72, none⟩ = some (.int .u64 (N1 : Int))) x } := ⟨⟨_, (hAr.cell (k := 0) rfl 72).trans HNj.out⟩⟩
          refine wp_region_plan 14 [9,14] [0,1,2,3,4,5,6,7,8,9,10,11,12,13,14] (fun x : World => x.cell? ⟨hb, 72, none⟩ = some (.int .u64 (N1 : Int))) (by kernel_rfl) (by kernel_rfl) ((hAr.drew.cell (k := 0) rfl 72).trans HNj.out) ?_
          refine plan_pure rfl rfl (fun K hK => ?_); go_simp; refine hK _ ?_; clear hK K
          refine plan_pure rfl rfl (fun K hK => ?_); go_simp; refine hK _ ?_; clear hK K
          refine plan_pure rfl rfl (fun K hK => ?_); go_simp; refine hK _ ?_; clear hK K
          refine plan_q rfl rfl rfl _ (fun x hx => run_load_cell rfl rfl hx no85) ?_
          refine plan_pure rfl rfl (fun K hK => ?_); go_simp; refine hK _ ?_; clear hK K
          refine plan_pure rfl rfl (fun K hK => ?_); go_simp; refine hK _ ?_; clear hK K
          refine plan_pure rfl rfl (fun K hK => ?_); go_simp; refine hK _ ?_; clear hK K
          refine plan_q rfl rfl rfl (.slice (some ⟨hb, 8, none⟩) 64 64) (fun x hx => run_sliceArr rfl Tryd.underlying145 size5 rfl 0 64 (by exact boundIs_none 0) (by exact boundIs_none 64) (by decide) (by decide) (by rw [sub_zero])) ?_
          refine plan_pure rfl rfl (fun K hK => ?_); go_simp; refine hK _ ?_; clear hK K
          refine plan_l rfl rfl rfl (fun K hK => wp_copy (l := l') rfl hAr.drew Tryd.underlying59 size5 rfl rfl (by rw [Hr'.out]; exact (Nat.min_eq_left (by omega)).symm) ((hB'.at_ hAr (by simpa using hO)).drew 1) 0 rfl (fun _ => rfl) (by rw [HLj.out]; omega) (fun w8 hA8 => hK _ _ (fun _ => (hA8.cell (k := 0) rfl 72).trans (by rw [Hpj.out]; exact HNj2.out)) ?_))
          clear hK K
          replace hA8 : At w [(hb, 147, hcells (blocks (m1.length / 64 + j) init8 (m1 ++ l1)) (put R1 0 l') N1)] w8 := by rw [← Hpj.out]; exact hA8
          refine plan_pure rfl rfl (fun K hK => ?_); go_simp; refine hK _ ?_; clear hK K
          refine plan_pure rfl rfl (fun K hK => ?_); go_simp; refine hK _ ?_; clear hK K
          refine plan_pure rfl rfl (fun K hK => ?_); go_simp; refine hK _ ?_; clear hK K
          refine plan_pure rfl rfl (fun K hK => ?_); go_simp; refine hK _ ?_; clear hK K
          refine plan_l rfl rfl rfl (fun K hK => wp_store1 (off := 72) rfl hA8 rfl (v := .int .u64 ((N1 + l'.length : Nat) : Int)) (val_u64 (by omega)) 0 rfl (by rw [HLj2.out]; decide) rfl size85 (fun w9 hA9 => hK _ _ (fun h => absurd h (by decide)) ?_))
          clear hK K
          replace hA9 : At w [(hb, 147, hcells (blocks (m1.length / 64 + j) init8 (m1 ++ l1)) (put R1 0 l') (N1 + l'.length))] w9 := by rw [← HSj.out]; exact hA9
          refine plan_end ?_
          clear e2 e3
          have hlr2 : Hid (m1 ++ l1 = m1 ++ l1.take (64 * j) ++ l') := by rw [Hl'.out, List.append_assoc, List.take_append_drop]; exact rfl
          have hln : (m1 ++ l1.take (64 * j)).length = N1 := by rw [HN1.out, List.length_append, List.length_take]; have := hlr.out; omega
          have h0' := HM0.out
          have h9 := HS.tail (m1 ++ l1.take (64 * j)) l' R1 HR1.out (by rw [hln, HN1.out]; omega) hl64
          have h10 : N1 / 64 = m1.length / 64 + j := by rw [HN1.out]; omega
          rw [← hlr2.out, hln, h10, hE.out] at h9
          have h11 : blocks (m1.length / 64 + j) init8 (m1 ++ l1) = blocks (m1.length / 64 + j) init8 (m1 ++ l1.take (64 * j)) := by
            rw [hlr2.out]; exact blocks_prefix _ _ _ _ (by rw [hln, ← h10]; omega)
          rw [← h11] at h9
          go_wp2
          refine bodyPost_end (results_none rfl _ _ _) rfl ?_
          exact ⟨rfl, _, h9, hA9⟩
end Go.Proofs.YtpomngkcfbnjoaaDoor
