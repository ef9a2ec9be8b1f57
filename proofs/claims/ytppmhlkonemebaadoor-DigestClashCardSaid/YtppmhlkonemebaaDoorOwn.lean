/- Texts that belong together, one behind the other. -/
import Derived.WalkKit
import Derived.ProofKit
import Derived.Lib.Hide
import Derived.Deep.MidRow
import Derived.Deep.Draws
import Derived.Deep.WholeRow
import Derived.BigQuiet
import Derived.OpenShut
import Derived.ShutString
import Derived.ChangeOld
import Derived.ChangeSlices
import Derived.SizedLaws
import Derived.Deep.Slices
import Derived.OrdersHeld
import Derived.Tactics
import Derived.Tactics2
import Derived.KernelRfl
import Derived.Laws.World
import Derived.Laws.MakeOwn
import Derived.Deep.AppendSrc
import Derived.Laws.IdiomStrings
import Derived.Deep.DeepAppendWide
/- What memory is known to hold, as one list of rows: 'At w0 L w': w is w0 but for new blocks and the rows listed in L, which lie as listed. Plain lemmas over the model; no program. -/
namespace Go.Dk
open Go Go.RowKit

abbrev Row := Nat × TypeId × List Value

structure At (w0 : World) (L : List Row) (w : World) : Prop where
  os : w.os = w0.os
  tape : w.tape = w0.tape
  output : w.output = w0.output
  size : w0.heap.size ≤ w.heap.size
  rows : ∀ r ∈ L, w.heap[r.1]? = some (.cells r.2.2.toArray r.2.1 (0, 0))
  dist : (L.map (·.1)).Nodup
  frame : ∀ k, k < w0.heap.size → k ∉ L.map (·.1) → w.heap[k]? = w0.heap[k]?

section
variable {w0 w w' : World} {L K L' : List Row} {g : Nat} {t : TypeId} {cs : List Value}

theorem keys_set {r r' : Row} {k : Nat} (hk : L[k]? = some r) (he : r'.1 = r.1) : (L.set k r').map (·.1) = L.map (·.1) := by
  rw [List.map_set]
  apply List.ext_getElem?
  intro i
  rw [List.getElem?_set]
  split
  · rename_i e
    subst e
    obtain ⟨hkl, hv⟩ := List.getElem?_eq_some_iff.1 hk
    simp [hkl, he, hv]
  · rfl
theorem key_inj (hd : (L.map (·.1)).Nodup) {i k : Nat} {r r' : Row} (hi : L[i]? = some r) (hk : L[k]? = some r') (he : r.1 = r'.1) : i = k := by
  have h1 : (L.map (·.1))[i]? = some r.1 := by simp [hi]
  have h2 : (L.map (·.1))[k]? = some r.1 := by simp [hk, he]
  have hil : i < (L.map (·.1)).length := (List.getElem?_eq_some_iff.1 h1).1
  exact (List.getElem?_inj hil hd).1 (h1.trans h2.symm)
theorem At.refl (w : World) : At w [] w := ⟨rfl, rfl, rfl, Nat.le_refl _, (fun _ h => by cases h), List.nodup_nil, fun _ _ _ => rfl⟩
theorem At.start (hr : ∀ r ∈ L, w.heap[r.1]? = some (.cells r.2.2.toArray r.2.1 (0, 0))) (hd : (L.map (·.1)).Nodup) : At w L w :=
  ⟨rfl, rfl, rfl, Nat.le_refl _, hr, hd, fun _ _ _ => rfl⟩
theorem At.start1 (h : w.heap[g]? = some (.cells cs.toArray t (0, 0))) : At w [(g, t, cs)] w :=
  At.start (by simpa using h) (by simp)
theorem At.row (h : At w0 L w) {k : Nat} (hk : L[k]? = some (g, t, cs)) : w.heap[g]? = some (.cells cs.toArray t (0, 0)) :=
  h.rows _ (List.mem_of_getElem? hk)
theorem lt_of_row (h : w.heap[g]? = some (.cells cs.toArray t (0, 0))) : g < w.heap.size := (Array.getElem?_eq_some_iff.1 h).1
theorem At.lt (h : At w0 L w) {k : Nat} (hk : L[k]? = some (g, t, cs)) : g < w.heap.size := lt_of_row (h.row hk)
theorem At.mem_lt (h : At w0 L w) {r : Row} (hr : r ∈ L) : r.1 < w.heap.size := (Array.getElem?_eq_some_iff.1 (h.rows r hr)).1
theorem At.key_lt (h : At w0 L w) {k : Nat} (hk : k ∈ L.map (·.1)) : k < w.heap.size := by
  obtain ⟨r, hr, rfl⟩ := List.mem_map.1 hk
  exact h.mem_lt hr
theorem At.cell (h : At w0 L w) {k : Nat} (hk : L[k]? = some (g, t, cs)) (j : Nat) : w.cell? ⟨g, j, none⟩ = cs[j]? := by
  rw [cell_of_row w g j _ t (0, 0) (h.row hk)]; simp
theorem At.frozen (h : At w0 L w) {k : Nat} (hk : L[k]? = some (g, t, cs)) (j : Nat) : w.frozen? ⟨g, j, none⟩ = false := by
  simp [World.frozen?, h.row hk]
theorem At.old (h : At w0 L w) {b : Nat} (hb : b < w0.heap.size) (hn : b ∉ L.map (·.1)) (j : Nat) (s : Option Nat) : w.cell? ⟨b, j, s⟩ = w0.cell? ⟨b, j, s⟩ := by
  simp [World.cell?, h.frame b hb hn]
theorem At.below (h : At w0 L w) (hL : ∀ r ∈ L, w0.heap.size ≤ r.1) : Below w0.heap.size w0 w :=
  ⟨h.os, h.tape, h.output, h.size, fun k hk => h.frame k hk (fun hm => by
    obtain ⟨r, hr, rfl⟩ := List.mem_map.1 hm
    have := hL r hr
    omega)⟩
theorem At.drew (h : At w0 L w) : At w0 L w.drew := ⟨h.os, h.tape, h.output, h.size, h.rows, h.dist, h.frame⟩
theorem At.drewN (h : At w0 L w) (n : Nat) : At w0 L (w.drewN n) := ⟨h.os, h.tape, h.output, h.size, h.rows, h.dist, h.frame⟩
theorem At.drawn (h : At w0 L w) (n : Nat) : At w0 L { w with drawn := n } := ⟨h.os, h.tape, h.output, h.size, h.rows, h.dist, h.frame⟩

theorem heap_alloc_lt (o : Obj) {k : Nat} (h : k < w.heap.size) : (w.alloc o).heap[k]? = w.heap[k]? := by
  simp only [World.alloc]
  rw [Array.getElem?_push]
  have : ¬ k = w.heap.size := by omega
  simp [this]

/-- A new block that nobody lists. -/
theorem At.alloc0 (h : At w0 L w) (o : Obj) : At w0 L (w.alloc o) :=
  ⟨h.os, h.tape, h.output, by simp only [World.alloc, Array.size_push]; have := h.size; omega,
   fun r hr => by rw [heap_alloc_lt o (h.mem_lt hr)]; exact h.rows r hr, h.dist,
   fun k hk hn => by rw [heap_alloc_lt o (by have := h.size; omega)]; exact h.frame k hk hn⟩
/-- A new row. -/
theorem At.alloc (h : At w0 L w) (cs : Array Value) (t : TypeId) : At w0 ((w.heap.size, t, cs.toList) :: L) (w.alloc (.cells cs t)) := by
  have h' := h.alloc0 (.cells cs t)
  refine ⟨h'.os, h'.tape, h'.output, h'.size, ?_, ?_, ?_⟩
  · intro r hr
    rcases List.mem_cons.1 hr with rfl | hr
    · show (w.heap.push _)[w.heap.size]? = _
      simp
    · exact h'.rows r hr
  · simp only [List.map_cons, List.nodup_cons]
    exact ⟨fun hm => by have := h.key_lt hm; omega, h.dist⟩
  · intro k hk hn
    simp only [List.map_cons, List.mem_cons, not_or] at hn
    exact h'.frame k hk hn.2

/-- A row is written anew. -/
theorem At.put (h : At w0 L w) {k : Nat} (hk : L[k]? = some (g, t, cs)) (cs' : List Value) : At w0 (L.set k (g, t, cs')) (w.setRow g cs'.toArray) := by
  have hkl : k < L.length := (List.getElem?_eq_some_iff.1 hk).1
  have hkey := keys_set hk (r' := (g, t, cs')) rfl
  refine ⟨h.os, h.tape, h.output, by simpa using h.size, ?_, by rw [hkey]; exact h.dist, ?_⟩
  · intro r hr
    obtain ⟨i, hi⟩ := List.mem_iff_getElem?.1 hr
    rw [List.getElem?_set] at hi
    split at hi
    · rename_i e
      subst e
      injection hi with hi
      subst hi
      exact setRow_heap w g _ _ t (0, 0) (h.row hk)
    · rename_i e
      have hne : r.1 ≠ g := fun he => e (key_inj h.dist hi hk he).symm
      rw [setRow_other w g r.1 _ hne]
      exact h.rows r (List.mem_of_getElem? hi)
  · intro i hi hn
    rw [hkey] at hn
    have hne : i ≠ g := fun e => hn (by subst e; exact List.mem_map.2 ⟨_, List.mem_of_getElem? hk, rfl⟩)
    rw [setRow_other w g i _ hne]
    exact h.frame i hi hn

/-- One call behind another: the rows that are listed at the end are the callee's, or listed before and not the callee's. -/
theorem At.trans (h : At w0 L w) (hc : At w K w') (L' : List Row) (h1 : ∀ r ∈ L', r ∈ K ∨ (r ∈ L ∧ r.1 ∉ K.map (·.1))) (hd : (L'.map (·.1)).Nodup)
    (h2 : ∀ r ∈ K, r.1 < w0.heap.size → r.1 ∈ L'.map (·.1)) (h3 : ∀ r ∈ L, r.1 < w0.heap.size → r.1 ∈ L'.map (·.1)) : At w0 L' w' := by
  refine ⟨hc.os.trans h.os, hc.tape.trans h.tape, hc.output.trans h.output, Nat.le_trans h.size hc.size, ?_, hd, ?_⟩
  · intro r hr
    rcases h1 r hr with hk | ⟨hl, hn⟩
    · exact hc.rows r hk
    · rw [hc.frame r.1 (h.mem_lt hl) hn]
      exact h.rows r hl
  · intro k hk hn
    rw [hc.frame k (Nat.lt_of_lt_of_le hk h.size) (fun hm => by
      obtain ⟨r, hr, rfl⟩ := List.mem_map.1 hm
      exact hn (h2 r hr hk))]
    exact h.frame k hk (fun hm => by
      obtain ⟨r, hr, rfl⟩ := List.mem_map.1 hm
      exact hn (h3 r hr hk))
/-- A callee that leaves all that was there. -/
theorem At.then0 (h : At w0 L w) (hc : At w [] w') : At w0 L w' :=
  h.trans hc L (fun r hr => .inr ⟨hr, by simp⟩) h.dist (fun _ hr => by cases hr) (fun r hr _ => List.mem_map.2 ⟨r, hr, rfl⟩)
/-- A callee whose rows are all new. -/
theorem At.thenNew (h : At w0 L w) (hc : At w K w') (hn : ∀ r ∈ K, w.heap.size ≤ r.1) : At w0 (K ++ L) w' := by
  refine h.trans hc (K ++ L) (fun r hr => ?_) ?_ (fun r hr _ => by simp; exact .inl ⟨_, _, hr⟩) (fun r hr _ => by simp; exact .inr ⟨_, _, hr⟩)
  · rcases List.mem_append.1 hr with hr | hr
    · exact .inl hr
    · refine .inr ⟨hr, fun hm => ?_⟩
      obtain ⟨r', hr', he⟩ := List.mem_map.1 hm
      have h1 := hn r' hr'
      have h2 := h.mem_lt hr
      omega
  · rw [List.map_append, List.nodup_append]
    refine ⟨hc.dist, h.dist, fun a ha b hb => ?_⟩
    obtain ⟨r, hr, rfl⟩ := List.mem_map.1 ha
    obtain ⟨r', hr', rfl⟩ := List.mem_map.1 hb
    have h1 := hn r hr
    have h2 := h.mem_lt hr'
    omega
/-- A callee that writes one row of those that are listed. -/
theorem At.then1 (h : At w0 L w) {k : Nat} (hk : L[k]? = some (g, t, cs)) {t' : TypeId} {cs' : List Value} (hc : At w [(g, t', cs')] w') : At w0 (L.set k (g, t', cs')) w' := by
  have hkl : k < L.length := (List.getElem?_eq_some_iff.1 hk).1
  have hkey := keys_set hk (r' := (g, t', cs')) rfl
  refine h.trans hc _ (fun r hr => ?_) (by rw [hkey]; exact h.dist) (fun r hr _ => ?_) (fun r hr _ => by rw [hkey]; exact List.mem_map.2 ⟨r, hr, rfl⟩)
  · obtain ⟨i, hi⟩ := List.mem_iff_getElem?.1 hr
    rw [List.getElem?_set] at hi
    split at hi
    · rename_i e
      subst e
      injection hi with hi
      subst hi
      exact .inl (by simp)
    · rename_i e
      refine .inr ⟨List.mem_of_getElem? hi, fun hm => ?_⟩
      have he : r.1 = g := by simpa using hm
      exact e (key_inj h.dist hi hk he).symm
  · rw [hkey]
    simp only [List.mem_singleton] at hr
    subst hr
    exact List.mem_map.2 ⟨_, List.mem_of_getElem? hk, rfl⟩
/-- Rows are forgotten, but for those that stood at the start. -/
theorem At.drop (h : At w0 L w) (hs : L'.Sublist L) (hn : ∀ r ∈ L, r.1 < w0.heap.size → r ∈ L') : At w0 L' w :=
  ⟨h.os, h.tape, h.output, h.size, fun r hr => h.rows r (hs.subset hr), (hs.map (·.1)).nodup h.dist,
   fun k hk hn' => h.frame k hk (fun hm => by
    obtain ⟨r, hr, rfl⟩ := List.mem_map.1 hm
    exact hn' (List.mem_map.2 ⟨r, hn r hr hk, rfl⟩))⟩
theorem At.clear (h : At w0 L w) (hn : ∀ r ∈ L, w0.heap.size ≤ r.1) : At w0 [] w :=
  h.drop (List.nil_sublist _) (fun r hr hlt => by have := hn r hr; omega)
end

section
variable {w0 w : World} {L : List Row} {g : Nat} {t : TypeId} {cs : List Value}
/-- A row that stood at the start and is as it was is listed, too. -/
theorem At.add (h : At w0 L w) (hg : w0.heap[g]? = some (.cells cs.toArray t (0, 0))) (hn : g ∉ L.map (·.1)) : At w0 (L ++ [(g, t, cs)]) w := by
  refine ⟨h.os, h.tape, h.output, h.size, ?_, ?_, ?_⟩
  · intro r hr
    rcases List.mem_append.1 hr with hr | hr
    · exact h.rows r hr
    · simp only [List.mem_singleton] at hr
      subst hr
      rw [h.frame g (lt_of_row hg) hn]
      exact hg
  · rw [List.map_append, List.nodup_append]
    refine ⟨h.dist, by simp, fun a ha b hb => ?_⟩
    simp only [List.map_cons, List.map_nil, List.mem_singleton] at hb
    subst hb
    rintro rfl
    exact hn ha
  · intro k hk hm
    rw [List.map_append, List.mem_append, not_or] at hm
    exact h.frame k hk hm.1
end

/-- cells, from an offset on, written anew -/
def splice (cs : List Value) (off : Nat) (new : List Value) : List Value := cs.take off ++ new ++ cs.drop (off + new.length)
section
variable {cs new : List Value} {off k : Nat}
theorem splice_length (h : off + new.length ≤ cs.length) : (splice cs off new).length = cs.length := by simp [splice]; omega
theorem splice_at (h : off + new.length ≤ cs.length) (hk : k < new.length) : (splice cs off new)[off + k]? = new[k]? := by
  unfold splice
  rw [List.append_assoc, List.getElem?_append_right (by simp; omega), List.length_take, show off + k - min off cs.length = k by omega, List.getElem?_append_left hk]
theorem splice_set (v : Value) (h : off + new.length ≤ cs.length) (hk : k < new.length) : (splice cs off new).set (off + k) v = splice cs off (new.set k v) := by
  unfold splice
  rw [List.length_set, List.append_assoc, List.set_append, if_neg (by simp; omega), List.length_take, show off + k - min off cs.length = k by omega, List.set_append, if_pos hk, List.append_assoc]
theorem splice_self (h : (cs.drop off).take new.length = new) : splice cs off new = cs := by
  unfold splice
  rw [List.append_assoc]
  conv => rhs; rw [← List.take_append_drop off cs]
  congr 1
  conv => rhs; rw [← List.take_append_drop new.length (cs.drop off), h]
  rw [List.drop_drop]
theorem splice_all' (X Y : List Value) (h : X.length = Y.length) : splice X 0 Y = Y := by
  have : X.drop (0 + Y.length) = [] := by simp [← h]
  unfold splice
  rw [this]
  simp
end

/-! ### Operations on memory, one rule each -/
section
variable {P : Program} {ops : Array Oper} {Q : Exit → Act → World → Prop} {a : Act} {w0 w : World} {L : List Row} {rest : List Oper} {o : Oper}

def notRow (P : Program) (t : TypeId) : Bool := match P.underlying t with
  | some (.struct _) | some (.array _ _) | none => false
  | some _ => true
def isRow (P : Program) (t : TypeId) (n : Nat) : Bool := (match P.underlying t with
  | some (.struct _) | some (.array _ _) => true
  | _ => false) && ((P.info? t).map (·.size) == some n)
def zeroIs (P : Program) (t : TypeId) (v : Value) : Prop := (P.info? t).map (fun i => i.zero) = some (some v)

theorem run_isAgg_no {t : TypeId} (h : notRow P t = true) (w : World) : (isAgg t).run P w = .ok false w := by
  unfold notRow at h
  unfold isAgg
  cases hu : P.underlying t with
  | none => simp [hu] at h
  | some d =>
    rw [Sem.run_bind, run_underlying hu w]
    cases d <;> simp_all

theorem wp_box {K : Act → World → Prop} {t : TypeId} {x : Operand} (ho : o.op = .box t x) (hA : At w0 L w) {v : Value} (hx : a.eval x = v)
    (h : ∀ n w', w.heap.size ≤ n → At w0 ((n, t, v.cells.toList) :: L) w' → K (a.put o.dst (.pointer (some ⟨n, 0, none⟩))) w') : o.wp P a w K Q := by
  have h1 := h w.heap.size (w.alloc (.cells v.cells t)) (Nat.le_refl _) (hA.alloc _ _)
  unfold Oper.wp execOp
  simp only [ho, hx, Instr.box, newVar, newRow, newObj, Sem.run_bind, Sem.run_pure]
  exact h1
theorem wp_alloc {K : Act → World → Prop} {t : TypeId} (ho : o.op = .alloc t) (hA : At w0 L w) {v : Value} (hz : zeroIs P t v)
    (h : ∀ n w', w.heap.size ≤ n → At w0 ((n, t, v.cells.toList) :: L) w' → K (a.put o.dst (.pointer (some ⟨n, 0, none⟩))) w') : o.wp P a w K Q := by
  have h1 := h w.heap.size (w.alloc (.cells v.cells t)) (Nat.le_refl _) (hA.alloc _ _)
  unfold zeroIs at hz
  unfold Oper.wp execOp
  cases hi : P.info? t with
  | none => simp [hi] at hz
  | some i =>
    have hz' : i.zero = some v := by simpa [hi] using hz
    simp only [ho, Instr.alloc, zeroValue, typeInfo, hi, hz', newVar, newRow, newObj, Sem.run_bind, Sem.run_pure, run_program, Result.andThen_ok]
    exact h1

/-- A load of one cell, whatever the world of which the rows are known. -/
theorem run_load1_at {t : TypeId} {x : Operand} (ho : o.op = .load t x) (hA : At w0 L w) {g off : Nat} (hx : a.eval x = .pointer (some ⟨g, off, none⟩))
    (k : Nat) {te : TypeId} {cs : List Value} (hk : L[k]? = some (g, te, cs)) {v : Value} (hv : cs[off]? = some v) (hn : notRow P t = true) : (execOp a.eval o).run P w = .ok (.value v) w := by
  have hc := (hA.cell hk off).trans hv
  unfold execOp
  simp only [ho, hx, Instr.loadAt, Instr.sureAddr, loadVar, Sem.run_bind, Sem.run_pure, Result.andThen_ok, run_isAgg_no hn w, Bool.false_eq_true, if_false, run_load, hc]
theorem run_load_cell {t : TypeId} {x : Operand} (ho : o.op = .load t x) {ad : Addr} (hx : a.eval x = .pointer (some ad))
    {v : Value} (hv : w.cell? ad = some v) (hn : notRow P t = true) : (execOp a.eval o).run P w = .ok (.value v) w := by
  unfold execOp
  simp only [ho, hx, Instr.loadAt, Instr.sureAddr, loadVar, Sem.run_bind, Sem.run_pure, Result.andThen_ok, run_isAgg_no hn w, Bool.false_eq_true, if_false, run_load, hv]

/-- An element of an array by value. -/
theorem wp_indexArr {K : Act → World → Prop} {t e : TypeId} {x ix : Operand} (ho : o.op = .index t x ix) {n : Nat} (hu : P.underlying t = some (.array n e)) (hn : notRow P e = true) (hs : (P.info? e).map (·.size) = some 1)
    {cs : Array Value} (hx : a.eval x = .agg cs) {kd : IntKind} {k : Nat} (hi : a.eval ix = .int kd (k : Int)) (hk : k < n) {v : Value} (hv : cs[k]? = some v) (h : K (a.put o.dst v) w) : o.wp P a w K Q := by
  have hb : (0 : Int) ≤ (k : Int) ∧ (k : Int) < (n : Int) := by omega
  have hsz : (sizeOf e).run P w = .ok 1 w := by
    cases hi : P.info? e with
    | none => simp [hi] at hs
    | some i =>
      have : i.size = 1 := by simpa [hi] using hs
      simp [sizeOf, typeInfo, hi, this]
  have hp : (part e cs k).run P w = .ok v w := by
    unfold part
    simp [run_isAgg_no hn w, hv]
  unfold Oper.wp execOp
  simp only [ho, hx, hi, Instr.index, asIntOf, Sem.run_bind, Sem.run_pure, Result.andThen_ok, run_underlying hu w, hb, and_self, if_true, hsz, Int.toNat_natCast, Nat.mul_one, hp]
  exact h
theorem at_index {t : TypeId} {x y : Operand} (_ : o.op = .index t x y) (h : wpList P ops Q (o :: rest) a w) : wpList P ops Q (o :: rest) a w := h

theorem wp_load1 {K : Act → World → Prop} {t : TypeId} {x : Operand} (ho : o.op = .load t x) (hA : At w0 L w) {g off : Nat} (hx : a.eval x = .pointer (some ⟨g, off, none⟩))
    (k : Nat) {te : TypeId} {cs : List Value} (hk : L[k]? = some (g, te, cs)) {v : Value} (hv : cs[off]? = some v) (hn : notRow P t = true)
    (h : K (a.put o.dst v) w) : o.wp P a w K Q := by
  have hc := (hA.cell hk off).trans hv
  unfold Oper.wp execOp
  simp only [ho, hx, Instr.loadAt, Instr.sureAddr, loadVar, Sem.run_bind, Sem.run_pure, Result.andThen_ok, run_isAgg_no hn w, Bool.false_eq_true, if_false, run_load, hc]
  exact h

theorem wp_loadOld {K : Act → World → Prop} {t : TypeId} {x : Operand} (ho : o.op = .load t x) {ad : Addr} (hx : a.eval x = .pointer (some ad))
    {v : Value} (hv : w.cell? ad = some v) (hn : notRow P t = true)
    (h : K (a.put o.dst v) w) : o.wp P a w K Q := by
  unfold Oper.wp execOp
  simp only [ho, hx, Instr.loadAt, Instr.sureAddr, loadVar, Sem.run_bind, Sem.run_pure, Result.andThen_ok, run_isAgg_no hn w, Bool.false_eq_true, if_false, run_load, hv]
  exact h

theorem isRow_spec {t : TypeId} {n : Nat} (h : isRow P t n = true) : ∃ d, P.underlying t = some d ∧ d.isRow = true ∧ (P.info? t).map (·.size) = some n := by
  unfold isRow at h
  rw [Bool.and_eq_true] at h
  obtain ⟨h1, h2⟩ := h
  cases hu : P.underlying t with
  | none => simp [hu] at h1
  | some d =>
    refine ⟨d, rfl, ?_, by simpa using h2⟩
    rw [hu] at h1
    cases d <;> simp_all

theorem At.range (hA : At w0 L w) {k g : Nat} {te : TypeId} {cs : List Value} (hk : L[k]? = some (g, te, cs)) (off n : Nat) : w.rangeAt g off ((cs.drop off).take n) := by
  intro j v hj
  rw [hA.cell hk]
  rw [List.getElem?_take] at hj
  split at hj
  · simpa [List.getElem?_drop] using hj
  · cases hj

theorem wp_loadRow {K : Act → World → Prop} {t : TypeId} {x : Operand} (ho : o.op = .load t x) (hA : At w0 L w) {g off : Nat} (hx : a.eval x = .pointer (some ⟨g, off, none⟩))
    (k : Nat) {te : TypeId} {cs : List Value} (hk : L[k]? = some (g, te, cs)) {n : Nat} (hr : isRow P t n = true) (hn : off + n ≤ cs.length)
    (h : K (a.put o.dst (.agg ((cs.drop off).take n).toArray)) w) : o.wp P a w K Q := by
  obtain ⟨d, hu, hd, hi⟩ := isRow_spec hr
  refine wp_load_mid t x ho g off hx ((cs.drop off).take n) d (hA.range hk off n) hu hd ?_ h
  rw [hi, List.length_take, List.length_drop]
  congr 1
  omega

theorem run_loadRow_at {t : TypeId} {x : Operand} (ho : o.op = .load t x) (hA : At w0 L w) {g off : Nat} (hx : a.eval x = .pointer (some ⟨g, off, none⟩))
    (k : Nat) {te : TypeId} {cs : List Value} (hk : L[k]? = some (g, te, cs)) {n : Nat} (hr : isRow P t n = true) (hn : off + n ≤ cs.length) {new : List Value} (he : (cs.drop off).take n = new) :
    (execOp a.eval o).run P w = .ok (.value (.agg new.toArray)) w := by
  subst he
  obtain ⟨d, hu, hd, hi⟩ := isRow_spec hr
  unfold execOp
  simp only [ho, hx, Instr.loadAt, Instr.sureAddr, Sem.run_bind, Sem.run_pure, Result.andThen_ok]
  rw [run_loadVar_mid w g off t _ d (hA.range hk off n) hu hd (by rw [hi, List.length_take, List.length_drop]; congr 1; omega)]
  rfl
theorem wp_store1 {K : Act → World → Prop} {t : TypeId} {x y : Operand} (ho : o.op = .store t x y) (hA : At w0 L w) {g off : Nat} (hx : a.eval x = .pointer (some ⟨g, off, none⟩))
    {v : Value} (hy : a.eval y = v) (k : Nat) {te : TypeId} {cs : List Value} (hk : L[k]? = some (g, te, cs)) (hl : off < cs.length) (hv : v.oneCell' = true) (hs : (P.info? t).map (·.size) = some 1)
    (h : ∀ w', At w0 (L.set k (g, te, cs.set off v)) w' → K (a.put o.dst undef) w') : o.wp P a w K Q := by
  have hrow := hA.row hk
  have hc : (w.cell? ⟨g, off, none⟩) = some cs[off] := (hA.cell hk off).trans (by simp [hl])
  have hf := hA.frozen hk off
  have hset := setCell_eq_setRow w g off _ te (0, 0) v hrow
  have h1 := h _ (hA.put hk (cs.set off v))
  have hcells : v.cells = #[v] := by cases v <;> first | rfl | (simp [Value.oneCell'] at hv)
  have hadd : (⟨g, off, none⟩ : Addr).add 0 = ⟨g, off, none⟩ := by simp [Addr.add]
  unfold Oper.wp execOp
  cases hi : P.info? t with
  | none => simp [hi] at hs
  | some i =>
    have hs' : i.size = 1 := by simpa [hi] using hs
    simp only [ho, hx, hy, Instr.storeAt, Instr.sureAddr, storeVar, sizeOf, typeInfo, hi, hs', hcells, Sem.run_bind, Sem.run_pure, run_program, Result.andThen_ok, List.size_toArray, List.length_cons, List.length_nil, ne_eq, not_true_eq_false, if_false, storeCells, hadd, run_store P w _ v _ hv, hc, hf, Bool.false_eq_true]
    rw [hset]
    simpa [Oper.upon] using h1

theorem wp_storeRow {K : Act → World → Prop} {t : TypeId} {x y : Operand} (ho : o.op = .store t x y) (hA : At w0 L w) {g off : Nat} (hx : a.eval x = .pointer (some ⟨g, off, none⟩))
    {new : Array Value} (hy : a.eval y = .agg new) (k : Nat) {te : TypeId} {cs : List Value} (hk : L[k]? = some (g, te, cs)) (hl : off + new.size ≤ cs.length) (hv : ∀ v ∈ new, v.oneCell' = true) (hs : (P.info? t).map (·.size) = some new.size)
    (h : ∀ w', At w0 (L.set k (g, te, splice cs off new.toList)) w' → K (a.put o.dst undef) w') : o.wp P a w K Q := by
  have hrow := hA.row hk
  have h1 := h _ (hA.put hk (splice cs off new.toList))
  have hst := run_storeCells_at P g off te new.toList 0 _ w hrow (by simpa using hl) (fun v hm => hv v (by simpa using hm))
  unfold Oper.wp execOp
  cases hi : P.info? t with
  | none => simp [hi] at hs
  | some i =>
    have hs' : i.size = new.size := by simpa [hi] using hs
    simp only [ho, hx, hy, Instr.storeAt, Instr.sureAddr, storeVar, sizeOf, typeInfo, hi, hs', Value.cells, Sem.run_bind, Sem.run_pure, run_program, Result.andThen_ok, ne_eq, not_true_eq_false, if_false, hst]
    simpa [splice, Oper.upon] using h1

theorem results_cell {fn : Func} {s : Tmp} {t : TypeId} (h : fn.results = #[.cell s t]) {tmps : Array Value} (hA : At w0 L w) {g : Nat} (hx : tmps.getD s undef = .pointer (some ⟨g, 0, none⟩))
    (k : Nat) {te : TypeId} {cs : List Value} (hk : L[k]? = some (g, te, cs)) (hr : isRow P t cs.length = true) : (results fn tmps).run P w = .ok (.agg cs.toArray) w := by
  obtain ⟨d, hu, hd, hi⟩ := isRow_spec hr
  have h1 := run_loadVar_mid (P := P) w g 0 t cs d (by simpa using hA.range hk 0 cs.length) hu hd hi
  have hx' : tmps[s]?.getD undef = .pointer (some ⟨g, 0, none⟩) := by simpa using hx
  simp [results, h, hx', h1, asAddr]

/-- 'clear' of a slice of a row's cells: zeros. -/
theorem wp_clear {K : Act → World → Prop} {x : Operand} {ts te' : TypeId} (ho : o.op = .call { callee := .builtin .clear, args := #[x], argTypes := #[ts] }) (hA : At w0 L w)
    {A : Option Addr} {g off n c : Nat} (hx : a.eval x = .slice A n c) (hAd : 0 < n → A = some ⟨g, off, none⟩) (hu : P.underlying ts = some (.slice te')) {z : Value} (hz : zeroIs P te' z) (hz1 : z.cells = #[z]) (hzo : z.oneCell' = true)
    (k : Nat) {te : TypeId} {cs : List Value} (hk : L[k]? = some (g, te, cs)) (hl : off + n ≤ cs.length)
    (h : ∀ w', At w0 (L.set k (g, te, splice cs off (List.replicate n z))) w' → K (a.put o.dst (.tuple #[])) w') : o.wp P a w K Q := by
  have hrow := hA.row hk
  have h1 := h _ (hA.put hk (splice cs off (List.replicate n z)))
  have hst := run_storeCells_at P g off te (List.replicate n z) 0 _ w hrow (by simpa using hl) (fun v hm => by rw [List.eq_of_mem_replicate hm]; exact hzo)
  unfold zeroIs at hz
  unfold Oper.wp execOp
  cases hi : P.info? te' with
  | none => simp [hi] at hz
  | some i =>
    have hz' : i.zero = some z := by simpa [hi] using hz
    cases n with
    | zero =>
      have hsame : splice cs off (List.replicate 0 z) = cs := by simp [splice]
      rw [hsame] at h1
      have hself := setRow_self w g _ te (0, 0) hrow
      rw [hself] at h1
      cases A <;>
      simp only [ho, hx, resolve, invoke, builtin, Builtin.clear_, List.map_toArray, List.map_cons, List.map_nil, Sem.run_bind, Sem.run_pure, Result.andThen_ok, run_underlying hu w, List.getElem?_toArray, List.getElem?_cons_zero] <;>
      exact h1
    | succ n =>
      obtain rfl := hAd (by omega)
      have hzc : (Builtin.zeroCells z.cells (n + 1)).toList = List.replicate (n + 1) z := by
        rw [hz1]; simp [Builtin.zeroCells, Nat.mod_one, List.map_const']
      simp only [ho, hx, resolve, invoke, builtin, Builtin.clear_, List.map_toArray, List.map_cons, List.map_nil, Sem.run_bind, Sem.run_pure, run_program, Result.andThen_ok, run_underlying hu w, List.getElem?_toArray, List.getElem?_cons_zero, zeroValue, typeInfo, hi, hz', hzc, hst]
      simpa [splice, Oper.upon] using h1
/-- where a slice's bound stands -/
def boundIs (v : Option Value) (dflt k : Nat) : Prop := (v = none ∧ k = dflt) ∨ ∃ kd, v = some (.int kd (k : Int))
theorem boundIs_none (d : Nat) : boundIs none d d := .inl ⟨rfl, rfl⟩
theorem boundIs_some (kd : IntKind) (d k : Nat) : boundIs (some (.int kd (k : Int))) d k := .inr ⟨kd, rfl⟩
theorem boundIs_int (kd : IntKind) (d k : Nat) (n : Int) (h : n = k) : boundIs (some (.int kd n)) d k := .inr ⟨kd, by rw [h]⟩

theorem run_sliceBound (kd : IntKind) (k y : Nat) (code : BoundsCode) (h : k ≤ y) : (Instr.sliceBound (.int kd (k : Int)) y code).run P w = .ok k w := by
  have h1 : (0 : Int) ≤ (k : Int) ∧ (k : Int) ≤ (y : Int) := by omega
  simp [Instr.sliceBound, asIntOf, h1]
theorem run_sliceBounds (b : Bool) (len cap : Nat) {lo hi : Option Value} {l h : Nat} (hlo : boundIs lo 0 l) (hhi : boundIs hi len h) (h1 : l ≤ h) (h2 : h ≤ cap) :
    (Instr.sliceBounds b len cap lo hi none).run P w = .ok (l, h, cap) w := by
  rcases hlo with ⟨rfl, rfl⟩ | ⟨kd, rfl⟩ <;> rcases hhi with ⟨rfl, rfl⟩ | ⟨kd', rfl⟩ <;>
    simp [Instr.sliceBounds, run_sliceBound, h1, h2]

/-- the address of a part: at the whole length the base's own -/
def sub (A : Option Addr) (l cap size : Nat) : Option Addr := if cap = l then A else A.map (·.add (l * size))

theorem run_sizeOf {t : TypeId} {n : Nat} (h : (P.info? t).map (·.size) = some n) : (sizeOf t).run P w = .ok n w := by
  cases hi : P.info? t with
  | none => simp [hi] at h
  | some i =>
    have : i.size = n := by simpa [hi] using h
    simp [sizeOf, typeInfo, hi, this]

theorem wp_sliceArr {K : Act → World → Prop} {t e : TypeId} {x : Operand} {lo hi : Option Operand} (ho : o.op = .slice t x lo hi none) {n size : Nat} (hu : P.underlying t = some (.array n e))
    (hs : (P.info? e).map (·.size) = some size) {ad : Addr} (hx : a.eval x = .pointer (some ad)) {l h : Nat} (hlo : boundIs (lo.map a.eval) 0 l) (hhi : boundIs (hi.map a.eval) n h) (h1 : l ≤ h) (h2 : h ≤ n)
    (hk : K (a.put o.dst (.slice (sub (some ad) l n size) (h - l) (n - l))) w) : o.wp P a w K Q := by
  unfold Oper.wp execOp
  simp only [ho, hx, Instr.sliceAt, Instr.sureAddr, Sem.run_bind, Sem.run_pure, Result.andThen_ok, run_underlying hu w, run_sliceBounds false n n hlo hhi h1 h2, run_sizeOf hs, Option.map_none]
  have he : some (if n = l then ad else ad.add (l * size)) = sub (some ad) l n size := by unfold sub; split <;> rfl
  rw [he]
  exact hk
theorem sub_lt {g off l cap : Nat} (h : l < cap) : sub (some ⟨g, off, none⟩) l cap 1 = some ⟨g, off + l, none⟩ := by
  unfold sub
  rw [if_neg (by omega)]
  simp [Addr.add_mid]
theorem sub_zero {A : Option Addr} {cap size : Nat} : sub A 0 cap size = A := by
  unfold sub
  split
  · rfl
  · cases A <;> simp [Addr.add]

theorem wp_sliceSl {K : Act → World → Prop} {t e : TypeId} {x : Operand} {lo hi : Option Operand} (ho : o.op = .slice t x lo hi none) {size : Nat} (hu : P.underlying t = some (.slice e))
    (hs : (P.info? e).map (·.size) = some size) {A : Option Addr} {len cap : Nat} (hx : a.eval x = .slice A len cap) {l h : Nat} (hlo : boundIs (lo.map a.eval) 0 l) (hhi : boundIs (hi.map a.eval) len h) (h1 : l ≤ h) (h2 : h ≤ cap)
    (hk : K (a.put o.dst (.slice (sub A l cap size) (h - l) (cap - l))) w) : o.wp P a w K Q := by
  unfold Oper.wp execOp
  simp only [ho, hx, Instr.sliceAt, Instr.slice, Sem.run_bind, Sem.run_pure, Result.andThen_ok, run_underlying hu w, run_sliceBounds true len cap hlo hhi h1 h2, run_sizeOf hs, Option.map_none]
  exact hk

/-! Which operation stands next? Offered 'with_reducible' ahead of a rule, so that an arm fails at once elsewhere. -/
theorem at_box {t : TypeId} {x : Operand} (_ : o.op = .box t x) (h : wpList P ops Q (o :: rest) a w) : wpList P ops Q (o :: rest) a w := h
theorem at_alloc {t : TypeId} (_ : o.op = .alloc t) (h : wpList P ops Q (o :: rest) a w) : wpList P ops Q (o :: rest) a w := h
theorem at_load {t : TypeId} {x : Operand} (_ : o.op = .load t x) (h : wpList P ops Q (o :: rest) a w) : wpList P ops Q (o :: rest) a w := h
theorem at_store {t : TypeId} {x y : Operand} (_ : o.op = .store t x y) (h : wpList P ops Q (o :: rest) a w) : wpList P ops Q (o :: rest) a w := h
theorem at_slice {t : TypeId} {x : Operand} {l h' m : Option Operand} (_ : o.op = .slice t x l h' m) (h : wpList P ops Q (o :: rest) a w) : wpList P ops Q (o :: rest) a w := h
theorem at_bin {b : Builtin} {xs : Array Operand} {ts : Array TypeId} (_ : o.op = .call { callee := .builtin b, args := xs, argTypes := ts }) (h : wpList P ops Q (o :: rest) a w) : wpList P ops Q (o :: rest) a w := h
end

/-! ### Arrays of bytes -/
section
variable {P : Program} {w : World}
def dc (D : List UInt8) : List Value := D.map fun b => .int .u8 b.toNat

theorem run_part {e : TypeId} {cs : Array Value} {i : Nat} {v : Value} (hn : notRow P e = true) (h : cs[i]? = some v) : (part e cs i).run P w = .ok v w := by
  unfold part
  simp [run_isAgg_no hn w, h]

theorem forIn_bytes (f : Nat → Option Bool × Unit → Sem (ForInStep (Option Bool × Unit))) (X Y : List UInt8) (n : Nat) (hX : X.length = n) (hY : Y.length = n)
    (hf : ∀ i (h : i < n), (f i (none, ())).run P w = .ok (if (X[i]'(by omega)) = (Y[i]'(by omega)) then .yield (none, ()) else .done (some false, ())) w) :
    ∀ m k, k + m = n → (forIn (List.range' k m) (none, ()) f).run P w = .ok (if X.drop k = Y.drop k then (none, ()) else (some false, ())) w
  | 0, k, h => by
    have h1 : X.drop k = [] := List.drop_of_length_le (by omega)
    have h2 : Y.drop k = [] := List.drop_of_length_le (by omega)
    simp [h1, h2]
  | m + 1, k, h => by
    have hd1 : X.drop k = X[k]'(by omega) :: X.drop (k + 1) := List.drop_eq_getElem_cons (by omega)
    have hd2 : Y.drop k = Y[k]'(by omega) :: Y.drop (k + 1) := List.drop_eq_getElem_cons (by omega)
    have ih := forIn_bytes f X Y n hX hY hf m (k + 1) (by omega)
    rw [List.range'_succ, List.forIn_cons, Sem.run_bind, hf k (by omega), Result.andThen_ok, hd1, hd2]
    by_cases e : X[k]'(by omega) = Y[k]'(by omega)
    · rw [if_pos e]
      simp only [ih, List.cons.injEq, e, true_and]
    · rw [if_neg e, if_neg (fun h => e (List.cons.inj h).1)]
      rfl

theorem run_equalIn_bytes (d : Nat) (t e : TypeId) (n : Nat) (X Y : List UInt8) (hu : P.underlying t = some (.array n e)) (he : P.underlying e = some (.int .u8)) (hs : (P.info? e).map (·.size) = some 1)
    (hX : X.length = n) (hY : Y.length = n) : (Op.equalIn (d + 2) t (.agg (dc X).toArray) (.agg (dc Y).toArray)).run P w = .ok (decide (X = Y)) w := by
  have hn : notRow P e = true := by simp [notRow, he]
  unfold Op.equalIn
  rw [Sem.run_bind, run_underlying hu w]
  simp only [Result.andThen_ok, Sem.run_bind, run_sizeOf hs]
  simp only [Std.Legacy.Range.forIn_eq_forIn_range', Std.Legacy.Range.size, Nat.sub_zero, Nat.add_one_sub_one, Nat.div_one]
  rw [forIn_bytes _ X Y n hX hY (fun i h => ?_) n 0 (by omega)]
  · simp only [Result.andThen_ok, List.drop_zero]
    by_cases e : X = Y <;> simp [e]
  · have h1 : (dc X).toArray[i * 1]? = some (.int .u8 (X[i]'(by omega)).toNat) := by simp [dc, hX, h]
    have h2 : (dc Y).toArray[i * 1]? = some (.int .u8 (Y[i]'(by omega)).toNat) := by simp [dc, hY, h]
    simp only [Sem.run_bind, run_part hn h1, run_part hn h2, Result.andThen_ok, run_equalIn_int w d e .u8 .u8 _ _ he]
    by_cases e : X[i]'(by omega) = Y[i]'(by omega)
    · simp [e]
    · have : ((X[i]'(by omega)).toNat : Int) ≠ ((Y[i]'(by omega)).toNat : Int) := fun h => e (UInt8.toNat_inj.1 (by omega))
      simp [e, this]

/-- '==' of two arrays of bytes -/
theorem run_eql_bytes (t e : TypeId) (n : Nat) (X Y : List UInt8) (hu : P.underlying t = some (.array n e)) (he : P.underlying e = some (.int .u8)) (hs : (P.info? e).map (·.size) = some 1)
    (hX : X.length = n) (hY : Y.length = n) : (binOp .eql t (.agg (dc X).toArray) (.agg (dc Y).toArray)).run P w = .ok (.bool (decide (X = Y))) w := by
  rw [run_eql_struct, show (10000 : Nat) = 9998 + 2 from rfl, run_equalIn_bytes 9998 t e n X Y hu he hs hX hY]
  rfl
/-- the whole operation -/
theorem run_op_eql_bytes {o : Oper} {a : Act} {t t' : TypeId} {x y : Operand} (ho : o.op = .binOp .eql t x y t') (e : TypeId) (n : Nat) (X Y : List UInt8) (hx : a.eval x = .agg (dc X).toArray) (hy : a.eval y = .agg (dc Y).toArray)
    (hu : P.underlying t = some (.array n e)) (he : P.underlying e = some (.int .u8)) (hs : (P.info? e).map (·.size) = some 1) (hX : X.length = n) (hY : Y.length = n) (hm : P.eqGuardType P.depth t = false) :
    (execOp a.eval o).run P w = .ok (.value (.bool (decide (X = Y)))) w := by
  unfold execOp
  simp only [ho, hx, hy, Sem.run_bind, run_eqGuard_agg w .eql t x y _ _ hm, Result.andThen_ok, run_eql_bytes t e n X Y hu he hs hX hY, Sem.run_pure]
end
end Go.Dk

/- SHA-256 in plain Lean, over natural numbers: what both texts compute. No Go, no program. -/
namespace Go.Dk
def rotr (x n : Nat) : Nat := (x / 2 ^ n) ||| (x * 2 ^ (32 - n) % 4294967296)
def sig0 (x : Nat) : Nat := (rotr x 7 ^^^ rotr x 18) ^^^ (x / 2 ^ 3)
def sig1 (x : Nat) : Nat := (rotr x 17 ^^^ rotr x 19) ^^^ (x / 2 ^ 10)
def Sig0 (x : Nat) : Nat := (rotr x 2 ^^^ rotr x 13) ^^^ rotr x 22
def Sig1 (x : Nat) : Nat := (rotr x 6 ^^^ rotr x 11) ^^^ rotr x 25
def chN (e f g : Nat) : Nat := (e &&& f) ^^^ ((4294967295 ^^^ e) &&& g)
def majN (a b c : Nat) : Nat := ((a &&& b) ^^^ (a &&& c)) ^^^ (b &&& c)
def add32 (a b : Nat) : Nat := (a + b) % 4294967296

/-- the next word of the schedule behind those that there are -/
def wAt (w : List Nat) (i : Nat) : Nat := w[i]?.getD 0
def wNext (w : List Nat) : Nat := add32 (add32 (add32 (wAt w (w.length - 16)) (sig0 (wAt w (w.length - 15)))) (wAt w (w.length - 7))) (sig1 (wAt w (w.length - 2)))
def sched : Nat → List Nat → List Nat
  | 0, w => w
  | n + 1, w => let v := sched n w; v ++ [wNext v]
def word (a b c d : UInt8) : Nat := ((a.toNat * 2 ^ 24 ||| b.toNat * 2 ^ 16) ||| c.toNat * 2 ^ 8) ||| d.toNat
def bAt (bs : List UInt8) (i : Nat) : UInt8 := bs[i]?.getD 0
def words : Nat → List UInt8 → List Nat
  | 0, _ => []
  | n + 1, bs => words n bs ++ [word (bAt bs (4 * n)) (bAt bs (4 * n + 1)) (bAt bs (4 * n + 2)) (bAt bs (4 * n + 3))]

structure St where
  a : Nat
  b : Nat
  c : Nat
  d : Nat
  e : Nat
  f : Nat
  g : Nat
  h : Nat
def St.x (s : St) (k w : Nat) : Nat := add32 (add32 (add32 (add32 s.h (Sig1 s.e)) (chN s.e s.f s.g)) k) w
def St.y (s : St) : Nat := add32 (Sig0 s.a) (majN s.a s.b s.c)
def St.step (s : St) (k w : Nat) : St := ⟨add32 (s.x k w) s.y, s.a, s.b, s.c, add32 s.d (s.x k w), s.e, s.f, s.g⟩
def St.list (s : St) : List Nat := [s.a, s.b, s.c, s.d, s.e, s.f, s.g, s.h]
def St.of (l : List Nat) : St := ⟨wAt l 0, wAt l 1, wAt l 2, wAt l 3, wAt l 4, wAt l 5, wAt l 6, wAt l 7⟩

def ks : List Nat := [
  0x428a2f98, 0x71374491, 0xb5c0fbcf, 0xe9b5dba5, 0x3956c25b, 0x59f111f1, 0x923f82a4, 0xab1c5ed5,
  0xd807aa98, 0x12835b01, 0x243185be, 0x550c7dc3, 0x72be5d74, 0x80deb1fe, 0x9bdc06a7, 0xc19bf174,
  0xe49b69c1, 0xefbe4786, 0x0fc19dc6, 0x240ca1cc, 0x2de92c6f, 0x4a7484aa, 0x5cb0a9dc, 0x76f988da,
  0x983e5152, 0xa831c66d, 0xb00327c8, 0xbf597fc7, 0xc6e00bf3, 0xd5a79147, 0x06ca6351, 0x14292967,
  0x27b70a85, 0x2e1b2138, 0x4d2c6dfc, 0x53380d13, 0x650a7354, 0x766a0abb, 0x81c2c92e, 0x92722c85,
  0xa2bfe8a1, 0xa81a664b, 0xc24b8b70, 0xc76c51a3, 0xd192e819, 0xd6990624, 0xf40e3585, 0x106aa070,
  0x19a4c116, 0x1e376c08, 0x2748774c, 0x34b0bcb5, 0x391c0cb3, 0x4ed8aa4a, 0x5b9cca4f, 0x682e6ff3,
  0x748f82ee, 0x78a5636f, 0x84c87814, 0x8cc70208, 0x90befffa, 0xa4506ceb, 0xbef9a3f7, 0xc67178f2]
def init8 : List Nat := [0x6a09e667, 0xbb67ae85, 0x3c6ef372, 0xa54ff53a, 0x510e527f, 0x9b05688c, 0x1f83d9ab, 0x5be0cd19]

/-- t rounds -/
def rounds (w : List Nat) (s : St) : Nat → St
  | 0 => s
  | t + 1 => (rounds w s t).step (wAt ks t) (wAt w t)
/-- one block taken in -/
def compress (st : List Nat) (bs : List UInt8) : List Nat :=
  (List.range 8).map fun i => add32 (wAt st i) (wAt (rounds (sched 48 (words 16 bs)) (St.of st) 64).list i)
/-- many blocks -/
def blocks : Nat → List Nat → List UInt8 → List Nat
  | 0, st, _ => st
  | n + 1, st, bs => blocks n (compress st (bs.take 64)) (bs.drop 64)
def be (k n : Nat) : List UInt8 := (List.range k).map fun i => UInt8.ofNat (n / 256 ^ (k - 1 - i))
/-- the text, filled up -/
def padding (n : Nat) : List UInt8 := 128 :: List.replicate ((119 - n % 64) % 64) 0 ++ be 8 (8 * n % 18446744073709551616)
def sha (bs : List UInt8) : List UInt8 :=
  let m := bs ++ padding bs.length
  (blocks (m.length / 64) init8 m).flatMap (be 4)
end Go.Dk

/- Slices of bytes: what can be read of them, copies. Plain lemmas over the model; no program. -/
namespace Go.Dk
open Go Go.RowKit
/-! ### Slices of bytes -/
theorem bAt_take {l : List UInt8} {i k : Nat} (h : i < k) : bAt (l.take k) i = bAt l i := by simp [bAt, h]
theorem bAt_drop {l : List UInt8} {i k : Nat} : bAt (l.drop k) i = bAt l (k + i) := by simp [bAt, List.getElem?_drop]
theorem dc_at {l : List UInt8} {i : Nat} (h : i < l.length) : (dc l)[i]? = some (.int .u8 (bAt l i).toNat) := by simp [dc, bAt, h]
theorem dc_append (a b : List UInt8) : dc (a ++ b) = dc a ++ dc b := by simp [dc]
theorem dc_length (a : List UInt8) : (dc a).length = a.length := by simp [dc]
theorem dc_take (a : List UInt8) (k : Nat) : (dc a).take k = dc (a.take k) := by simp [dc]
theorem dc_drop (a : List UInt8) (k : Nat) : (dc a).drop k = dc (a.drop k) := by simp [dc]
theorem dc_one (D : List UInt8) : ∀ v ∈ dc D, v.oneCell' = true := by
  intro v hv
  simp only [dc, List.mem_map] at hv
  obtain ⟨b, _, rfl⟩ := hv
  rfl

/-- The bytes l can be read from the address on. -/
def Bts (w : World) (A : Option Addr) (l : List UInt8) : Prop :=
  l ≠ [] → ∃ b o, A = some ⟨b, o, none⟩ ∧ b < w.heap.size ∧ ∀ i, i < l.length → w.cell? ⟨b, o + i, none⟩ = some (.int .u8 (bAt l i).toNat)
/-- The address lies in another block. -/
def Off (A : Option Addr) (g : Nat) : Prop := ∀ ad, A = some ad → ad.block ≠ g

section
variable {w0 w w' : World} {L : List Row} {A : Option Addr} {l : List UInt8} {g : Nat}
theorem Bts.nil (w : World) (A : Option Addr) : Bts w A [] := fun h => absurd rfl h
theorem Bts.drew (h : Bts w A l) (n : Nat) : Bts (w.drewN n) A l := h
/-- What was there at the start, and is not listed, is there still. -/
theorem Bts.at_ (h : Bts w0 A l) (hA : At w0 L w) (hn : ∀ r ∈ L, Off A r.1) : Bts w A l := fun hne => by
  obtain ⟨b, o, rfl, hb, hc⟩ := h hne
  refine ⟨b, o, rfl, Nat.lt_of_lt_of_le hb hA.size, fun i hi => ?_⟩
  rw [hA.old hb (fun hm => by
    obtain ⟨r, hr, he⟩ := List.mem_map.1 hm
    exact hn r hr _ rfl he.symm)]
  exact hc i hi
theorem Bts.then0 (h : Bts w A l) (hA : At w [] w') : Bts w' A l := h.at_ hA (fun _ hr => by cases hr)
theorem Off.sub {k cap size : Nat} (h : Off A g) : Off (sub A k cap size) g := by
  intro ad he
  unfold Dk.sub at he
  split at he
  · exact h ad he
  · cases A with
    | none => cases he
    | some a =>
      simp only [Option.map_some, Option.some.injEq] at he
      subst he
      have := h a rfl
      unfold Addr.add
      split <;> exact this
theorem Bts.drop (h : Bts w A l) (k : Nat) {cap : Nat} (hc : l.length ≤ cap) : Bts w (sub A k cap 1) (l.drop k) := fun hne => by
  have hk : k < l.length := by
    rcases Nat.lt_or_ge k l.length with h1 | h1
    · exact h1
    · exact absurd (List.drop_eq_nil_iff.2 h1) hne
  obtain ⟨b, o, rfl, hb, hcell⟩ := h (fun e => by rw [e] at hk; exact absurd hk (Nat.not_lt_zero _))
  refine ⟨b, o + k, sub_lt (by omega), hb, fun i hi => ?_⟩
  rw [List.length_drop] at hi
  have := hcell (k + i) (by omega)
  rw [bAt_drop, ← this, Nat.add_assoc]
theorem Bts.take (h : Bts w A l) (k : Nat) : Bts w A (l.take k) := fun hne => by
  obtain ⟨b, o, rfl, hb, hcell⟩ := h (fun e => hne (by rw [e]; simp))
  refine ⟨b, o, rfl, hb, fun i hi => ?_⟩
  rw [List.length_take] at hi
  rw [bAt_take (by omega)]
  exact hcell i (by omega)
theorem Bts.row (hA : At w0 L w) {k : Nat} {t : TypeId} {cs : List Value} (hk : L[k]? = some (g, t, cs)) {o : Nat} (hc : (cs.drop o).take l.length = dc l) : Bts w (some ⟨g, o, none⟩) l := fun _ => by
  refine ⟨g, o, rfl, hA.lt hk, fun i hi => ?_⟩
  rw [hA.cell hk]
  have h1 : ((cs.drop o).take l.length)[i]? = cs[o + i]? := by rw [List.getElem?_take, if_pos hi, List.getElem?_drop]
  rw [← h1, hc, dc_at hi]
end

section
variable {P : Program} {ops : Array Oper} {Q : Exit → Act → World → Prop} {a : Act} {w0 w : World} {L : List Row} {rest : List Oper} {o : Oper}
/-- 'copy' onto a row, from bytes that can be read. -/
theorem run_copy_bytes {x y : Operand} {tx ty e : TypeId} (ho : o.op = .call { callee := .builtin .copy, args := #[x, y], argTypes := #[tx, ty] }) (hA : At w0 L w)
    (hu : P.underlying tx = some (.slice e)) (hs : (P.info? e).map (·.size) = some 1) {D A : Option Addr} {dLen dc' sLen sc : Nat} (hx : a.eval x = .slice D dLen dc') (hy : a.eval y = .slice A sLen sc)
    {l : List UInt8} (hl : l.length = Nat.min sLen dLen) (hr : Bts w A l) {g off k : Nat} {te : TypeId} {cs : List Value} (hk : L[k]? = some (g, te, cs)) (hD : 0 < l.length → D = some ⟨g, off, none⟩) (hfit : off + l.length ≤ cs.length) :
    ∃ w', (execOp a.eval o).run P w = .ok (.value (.int .i64 (l.length : Nat))) w' ∧ At w0 (L.set k (g, te, splice cs off (dc l))) w' := by
  have hrow := hA.row hk
  have hsz := run_sizeOf (w := w) hs
  by_cases hne : l = []
  · subst hne
    have hsame : splice cs off (dc []) = cs := by simp [splice, dc]
    have hput := hA.put hk (splice cs off (dc []))
    rw [hsame] at hput
    have hself := setRow_self w g _ te (0, 0) hrow
    rw [hself] at hput
    refine ⟨w, ?_, by rw [hsame]; exact hput⟩
    have h0 : Nat.min sLen dLen = 0 := hl.symm
    unfold execOp
    cases A <;> cases D <;>
    simp [ho, hx, hy, resolve, invoke, builtin, Builtin.copy_, run_underlying hu w, Builtin.lenOf, Builtin.firstCells, hsz, h0, storeCells, loadCells, loadCellsFrom, goInt]
  · obtain ⟨b, o', rfl, hb, hcell⟩ := hr hne
    have hpos : 0 < l.length := List.length_pos_iff.2 hne
    obtain rfl := hD hpos
    refine ⟨_, ?_, hA.put hk (splice cs off (dc l))⟩
    have hl' := run_loadCells_list (P := P) w ⟨b, o', none⟩ (dc l) (fun j v hj => by
      rw [Addr.add_mid]
      have hjl : j < l.length := by
        have := (List.getElem?_eq_some_iff.1 hj).1
        rwa [dc_length] at this
      rw [dc_at hjl] at hj
      rw [hcell j hjl, ← hj])
    have hst := run_storeCells_at P g off te (dc l) 0 _ w hrow (by rw [dc_length]; simpa using hfit) (dc_one l)
    rw [dc_length] at hl'
    unfold execOp
    simp only [ho, hx, hy, resolve, invoke, builtin, Builtin.copy_, Builtin.lenOf, Builtin.firstCells, List.map_toArray, List.map_cons, List.map_nil, Sem.run_bind, Sem.run_pure, Result.andThen_ok, run_underlying hu w, List.getElem?_toArray, List.getElem?_cons_zero,
      List.getElem?_cons_succ, hsz, ← hl, Nat.mul_one, hl', hst, goInt]
    simp [splice]
theorem wp_copy {K : Act → World → Prop} {x y : Operand} {tx ty e : TypeId} (ho : o.op = .call { callee := .builtin .copy, args := #[x, y], argTypes := #[tx, ty] }) (hA : At w0 L w)
    (hu : P.underlying tx = some (.slice e)) (hs : (P.info? e).map (·.size) = some 1) {D A : Option Addr} {dLen dc' sLen sc : Nat} (hx : a.eval x = .slice D dLen dc') (hy : a.eval y = .slice A sLen sc)
    {l : List UInt8} (hl : l.length = Nat.min sLen dLen) (hr : Bts w A l) {g off : Nat} (k : Nat) {te : TypeId} {cs : List Value} (hk : L[k]? = some (g, te, cs)) (hD : 0 < l.length → D = some ⟨g, off, none⟩) (hfit : off + l.length ≤ cs.length)
    (h : ∀ w', At w0 (L.set k (g, te, splice cs off (dc l))) w' → K (a.put o.dst (.int .i64 (l.length : Nat))) w') : o.wp P a w K Q := by
  obtain ⟨w', h1, h2⟩ := run_copy_bytes ho hA hu hs hx hy hl hr hk hD hfit
  unfold Oper.wp
  rw [h1]
  exact h w' h2
theorem at_build {t : TypeId} {ps : Array (Nat × Operand)} (_ : o.op = .build t ps) (h : wpList P ops Q (o :: rest) a w) : wpList P ops Q (o :: rest) a w := h
theorem wp_build {K : Act → World → Prop} {t : TypeId} {ps : Array (Nat × Operand)} (ho : o.op = .build t ps) {v : Value} (hr : (Instr.build t (ps.map fun (i, x) => (i, a.eval x))).run P w = .ok v w) (h : K (a.put o.dst v) w) : o.wp P a w K Q := by
  unfold Oper.wp execOp
  simp only [ho, Sem.run_bind, hr, Result.andThen_ok, Sem.run_pure]
  exact h
theorem run_sliceArr {t e : TypeId} {x : Operand} {lo hi : Option Operand} (ho : o.op = .slice t x lo hi none) {n size : Nat} (hu : P.underlying t = some (.array n e))
    (hs : (P.info? e).map (·.size) = some size) {ad : Addr} (hx : a.eval x = .pointer (some ad)) (l h : Nat) (hlo : boundIs (lo.map a.eval) 0 l) (hhi : boundIs (hi.map a.eval) n h) (h1 : l ≤ h) (h2 : h ≤ n)
    {v : Value} (hv : Value.slice (sub (some ad) l n size) (h - l) (n - l) = v) : (execOp a.eval o).run P w = .ok (.value v) w := by
  subst hv
  unfold execOp
  simp only [ho, hx, Instr.sliceAt, Instr.sureAddr, Sem.run_bind, Sem.run_pure, Result.andThen_ok, run_underlying hu w, run_sliceBounds false n n hlo hhi h1 h2, run_sizeOf hs, Option.map_none]
  have he : some (if n = l then ad else ad.add (l * size)) = sub (some ad) l n size := by unfold sub; split <;> rfl
  rw [he]
theorem run_sliceSl {t e : TypeId} {x : Operand} {lo hi : Option Operand} (ho : o.op = .slice t x lo hi none) {size : Nat} (hu : P.underlying t = some (.slice e))
    (hs : (P.info? e).map (·.size) = some size) {A : Option Addr} {len cap : Nat} (hx : a.eval x = .slice A len cap) (l h : Nat) (hlo : boundIs (lo.map a.eval) 0 l) (hhi : boundIs (hi.map a.eval) len h) (h1 : l ≤ h) (h2 : h ≤ cap)
    {v : Value} (hv : Value.slice (sub A l cap size) (h - l) (cap - l) = v) : (execOp a.eval o).run P w = .ok (.value v) w := by
  subst hv
  unfold execOp
  simp only [ho, hx, Instr.sliceAt, Instr.slice, Sem.run_bind, Sem.run_pure, Result.andThen_ok, run_underlying hu w, run_sliceBounds true len cap hlo hhi h1 h2, run_sizeOf hs, Option.map_none]
  rfl
/-- for a loop's measure -/
def lenV : Value → Nat
  | .slice _ n _ => n
  | _ => 0
end
end Go.Dk

/- How arguments are opened: slices of bytes, slices of such slices. Plain lemmas over the model; no program. -/
namespace Go.Dk
open Go Go.ChangeShapes Go.WideShapes Go.ChangeAt Go.RowKit Go.Deep
section
variable {H : Type} {enc : TypeId × Value → H} {P : Program} {w : World} {held : Bool} {t e : TypeId} {v : Value} {d : DataW H} {p : List MemPlace}
theorem addr_plain {a : Addr} {i : Nat} {u : Value} (h : w.cell? (a.add i) = some u) (hi : i = 0) : a = ⟨a.block, a.off, none⟩ := by
  subst hi
  obtain ⟨b, o, s⟩ := a
  have hs : s = none := by simpa [Addr.add] using World.cell?_spot h
  subst hs
  rfl
theorem block_lt_of_cell {ad : Addr} {u : Value} (h : w.cell? ad = some u) : ad.block < w.heap.size := by
  unfold World.cell? at h
  rcases Nat.lt_or_ge ad.block w.heap.size with h1 | h1
  · exact h1
  · rw [Array.getElem?_eq_none h1] at h; simp at h
/-- the cells of a slice of bytes -/
theorem open_byte_cells {cs : List Value} {x : DataW H × List MemPlace} {fuel : Nat} (ht : P.underlying t = some (.slice e)) (he : P.underlying e = some (.int .u8)) (hc : P.cellsOf e = 1)
    (h : DataW.trod enc P w 0 (fun _ => true) held fuel t cs = some x) :
    ∃ A c l, cs = [.slice A l.length c] ∧ l.length ≤ c ∧ Bts w A l ∧ ((A = none ∧ c = 0 ∧ x.1 = .nil) ∨ ∃ es sp, x.1 = .slice es sp ∧ es.length + sp.length = c ∧ es.length = l.length) := by
  rcases open_ints ht he hc h with ⟨rfl, rfl⟩ | ⟨a, len, cap, zs, rfl, _, hl, _, hz, rfl, hcell, hw⟩
  · exact ⟨none, 0, [], rfl, Nat.le_refl _, Bts.nil _ _, .inl ⟨rfl, rfl, rfl⟩⟩
  · simp only [if_true] at hz
    refine ⟨some a, cap, (zs.take len).map fun z => UInt8.ofNat z.toNat, ?_, ?_, ?_, .inr ⟨_, _, rfl, ?_, ?_⟩⟩
    · simp; omega
    · simp; omega
    · intro hne
      have hlen : 0 < len := by
        rcases Nat.eq_zero_or_pos len with h0 | h0
        · subst h0; simp at hne
        · exact h0
      have h0 := hcell 0 (by omega)
      have hp := addr_plain h0 rfl
      refine ⟨a.block, a.off, by rw [← hp], ?_, fun i hi => ?_⟩
      · have := block_lt_of_cell h0
        rw [hp] at this
        simpa [Addr.add] using this
      · have hil : i < len := by simp at hi; omega
        have h1 := hcell i (by omega)
        rw [hp, Addr.add_mid] at h1
        rw [h1]
        have hzl : i < zs.length := by omega
        have hg : zs.getD i 0 = zs[i] := by simp [List.getD, hzl]
        have hwf := hw zs[i] (List.getElem_mem hzl)
        have hb : 0 ≤ zs[i] ∧ zs[i] ≤ 255 := by simpa [Lit.wf, IntKind.min, IntKind.max, IntKind.signed, IntKind.bits] using hwf
        rw [hg]
        congr 2
        have hb2 : bAt ((zs.take len).map fun z => UInt8.ofNat z.toNat) i = UInt8.ofNat zs[i].toNat := by
          unfold bAt
          rw [List.getElem?_map, List.getElem?_take, if_pos hil, List.getElem?_eq_getElem hzl]
          rfl
        rw [hb2, UInt8.toNat_ofNat']
        omega
    · simp [lits]; omega
    · simp [lits]
theorem open_int64 {r : Reach} {b0 : Nat} {k : IntKind} (ht : P.underlying t = some (.int k)) (hv : Value.okWide P w r b0 t v) (h : DataW.Trod enc P w 0 (fun _ => true) held t v d p) : ∃ n : Int, v = .int k n ∧ k.min ≤ n ∧ n ≤ k.max := by
  cases v <;> simp_all [Value.okWide, Cell.okWide, Cell.ok, IntKind.has]
end
end Go.Dk

/- Regions that draw their order: one plan (a list of the operations' numbers) serves every order, where what is taken out of turn only reads, and what it reads is kept by whatever may come before it. Plain lemmas over the model; no program. -/
namespace Go.Dk
open Go
section
variable {P : Program} {ops : Array Oper} {Q : Exit → Act → World → Prop} {md : Region.Mode} {S : World → Prop} {n : Nat}

/-- Does j wait for i, by an edge of its own? -/
def direct (md : Region.Mode) (ops : Array Oper) (j i : Nat) : Bool :=
  match ops[j]? with
  | none => false
  | some o => o.after.any fun e => Region.binds md e && e.on == i

/-- Each of the first n is waited for by a later one, number n at most. -/
def sinks (md : Region.Mode) (ops : Array Oper) (n : Nat) : Bool :=
  (List.range n).all fun i => (List.range (n + 1)).any fun j => decide (i < j) && direct md ops j i

/-- The tail: each waits for the one ahead of it. -/
def chained (md : Region.Mode) (ops : Array Oper) (n : Nat) : Bool :=
  (List.range (ops.size - n)).all fun k => k == 0 || direct md ops (n + k) (n + k - 1)

/-- Whatever is listed, all that it waits for is listed. -/
def Closed (md : Region.Mode) (ops : Array Oper) (listed : Array Bool) : Prop :=
  ∀ j i, listed.getD j false = true → direct md ops j i = true → listed.getD i false = true

theorem direct_spec {j i : Nat} (h : direct md ops j i = true) : ∃ o, ops[j]? = some o ∧ ∃ e ∈ o.after, Region.binds md e = true ∧ e.on = i := by
  unfold direct at h
  cases ho : ops[j]? with
  | none => simp [ho] at h
  | some o =>
    simp only [ho] at h
    obtain ⟨e, he, hb⟩ := Array.any_eq_true'.1 h
    simp only [Bool.and_eq_true, beq_iff_eq] at hb
    exact ⟨o, rfl, e, he, hb.1, hb.2⟩

theorem ready_direct {j i : Nat} {listed : Array Bool} (hj : j ∈ Region.ready md ops listed) (h : direct md ops j i = true) : listed.getD i false = true := by
  obtain ⟨_, o, ho, hall⟩ := mem_ready.1 hj
  obtain ⟨o', ho', e, he, hb, rfl⟩ := direct_spec h
  rw [ho] at ho'
  injection ho' with ho'
  subst ho'
  exact hall e he hb

theorem getD_set {listed : Array Bool} {i j : Nat} (h : (listed.setIfInBounds i true).getD j false = true) : j = i ∨ listed.getD j false = true := by
  by_cases e : i = j
  · exact .inl e.symm
  · rw [getD_set_ne false e] at h; exact .inr h

theorem Closed.set {i : Nat} {listed : Array Bool} (h : Closed md ops listed) (hi : i ∈ Region.ready md ops listed) : Closed md ops (listed.setIfInBounds i true) := by
  intro j k hj hd
  rcases getD_set hj with rfl | hj
  · exact getD_set_true (ready_direct hi hd)
  · exact getD_set_true (h j k hj hd)

theorem getD_false_of_unlisted {listed : Array Bool} {i : Nat} (h : listed.getD i true = false) : listed.getD i false = false := by
  rcases Nat.lt_or_ge i listed.size with hlt | hge
  · simpa [hlt] using h
  · simp [Array.getElem?_eq_none hge] at h

/-- A tail's operation comes up only when the whole head is listed. -/
theorem head_listed (hs : sinks md ops n = true) (hc : chained md ops n = true) {listed : Array Bool} (hcl : Closed md ops listed) {j : Nat} (hjn : n ≤ j) (hj : j ∈ Region.ready md ops listed) :
    ∀ i, i < n → listed.getD i false = true := by
  have hjs : j < ops.size := by
    obtain ⟨_, o, ho, _⟩ := mem_ready.1 hj
    exact (Array.getElem?_eq_some_iff.1 ho).1
  have step : ∀ k, n ≤ k → k + 1 < ops.size → direct md ops (k + 1) k = true := fun k hk hlt => by
    have h1 := List.all_eq_true.1 hc (k + 1 - n) (by simp; omega)
    simp only [Bool.or_eq_true, beq_iff_eq] at h1
    rcases h1 with h1 | h1
    · omega
    · rw [show n + (k + 1 - n) = k + 1 by omega] at h1
      exact h1
  -- all between n and j - 1 are listed; and n is ready or listed
  have down : ∀ d k, n ≤ k → k < j → j - k = d → listed.getD k false = true := by
    intro d
    induction d using Nat.strongRecOn with
    | _ d ih =>
      intro k hk hkj hd
      by_cases e : k + 1 = j
      · subst e; exact ready_direct hj (step k hk hjs)
      · exact hcl (k + 1) k (ih (j - (k + 1)) (by omega) (k + 1) (by omega) (by omega) rfl) (step k hk (by omega))
  have nok : ∀ i, direct md ops n i = true → listed.getD i false = true := fun i hi => by
    by_cases e : j = n
    · subst e; exact ready_direct hj hi
    · exact hcl n i (down (j - n) n (Nat.le_refl _) (by omega) rfl) hi
  intro i hi
  have main : ∀ d i, i < n → n - i = d → listed.getD i false = true := by
    intro d
    induction d using Nat.strongRecOn with
    | _ d ih =>
      intro i hi hd
      have h1 := List.all_eq_true.1 hs i (by simpa using hi)
      obtain ⟨k, hk, h2⟩ := List.any_eq_true.1 h1
      simp only [Bool.and_eq_true, decide_eq_true_eq] at h2
      simp only [List.mem_range] at hk
      by_cases e : k = n
      · subst e; exact nok i h2.2
      · exact hcl k i (ih (n - k) (by omega) k (by omega) rfl) h2.2
  exact main (n - i) i hi rfl

/-- Whatever order is picked from here on; S holds behind every operation of the head that is carried out. -/
def wpAnyT (P : Program) (md : Region.Mode) (ops : Array Oper) (Q : Exit → Act → World → Prop) (S : World → Prop) (n : Nat) : Nat → Array Bool → Act → World → Prop
  | 0, listed, a, w => Region.ready md ops listed = [] ∧ Q .normal a w
  | fuel + 1, listed, a, w =>
    (Region.ready md ops listed = [] → Q .normal a w) ∧
    ∀ i ∈ Region.ready md ops listed, wpOp P ops Q i (fun a' w' => (i < n → S w') ∧ wpAnyT P md ops Q S n fuel (listed.setIfInBounds i true) a' w') a w

theorem wpAny_of_T : ∀ (fuel : Nat) (listed : Array Bool) (a : Act) (w : World), wpAnyT P md ops Q S n fuel listed a w → wpAny P md ops Q fuel listed a w
  | 0, _, _, _, h => h
  | fuel + 1, _, _, _, h => ⟨h.1, fun i hi => wpOp_mono (fun a' w' h' => wpAny_of_T fuel _ a' w' h'.2) (h.2 i hi)⟩

theorem wpAnyT_first {i : Nat} {oi : Oper} {v : Value} (hs : sinks md ops n = true) (hc : chained md ops n = true) (hin : i < n) (hi : ops[i]? = some oi)
    (hsel : ∀ (j : Nat) (o : Oper) cs b, ops[j]? = some o → o.op ≠ .select cs b)
    (hQ : ∀ c a w, Q (.panic c) (a.put oi.dst v) w → Q (.panic c) a w) :
    ∀ (fuel : Nat) (listed : Array Bool) (a : Act) (w : World), Closed md ops listed →
      (∀ j oj, ops[j]? = some oj → j ≠ i → listed.getD j true = false → (∀ e ∈ oj.after, Region.binds md e = true → e.on ≠ i) → oi.apart ops oj = true) →
      i ∈ Region.ready md ops listed → YieldsIf P ops S oi v a → S w →
      wpAnyT P md ops Q S n fuel (listed.setIfInBounds i true) (a.put oi.dst v) w → wpAnyT P md ops Q S n (fuel + 1) listed a w := by
  intro fuel
  induction fuel with
  | zero =>
    intro listed a w _ _ hr hy hS H
    refine ⟨fun h => (by rw [h] at hr; cases hr), fun j hj => ?_⟩
    by_cases hji : j = i
    · subst hji; exact hy.wpOp hi hS ⟨fun _ => hS, H⟩
    · have := ready_mono hj hji
      rw [H.1] at this
      cases this
  | succ fuel ih =>
    intro listed a w hcl hfree hr hy hS H
    refine ⟨fun h => (by rw [h] at hr; cases hr), fun j hj => ?_⟩
    by_cases hji : j = i
    · subst hji; exact hy.wpOp hi hS ⟨fun _ => hS, H⟩
    · have hjn : j < n := by
        rcases Nat.lt_or_ge j n with h | h
        · exact h
        · have h1 := head_listed hs hc hcl h hj i hin
          have h2 := getD_false_of_unlisted (mem_ready.1 hr).1
          rw [h1] at h2; cases h2
      have h1 := H.2 j (ready_mono hj hji)
      obtain ⟨hjun, oj, hoj, hall⟩ := mem_ready.1 hj
      have hnot : ∀ e ∈ oj.after, Region.binds md e = true → e.on ≠ i := fun e he hb heq => by
        have h1 := hall e he hb
        have h0 := getD_false_of_unlisted (mem_ready.1 hr).1
        rw [heq, h0] at h1
        cases h1
      have h2 := wpOp_putIf hoj (hfree j oj hoj hji hjun hnot) (fun cs b => hsel i oi cs b hi) (fun cs b => hsel j oj cs b hoj) hQ hy h1
      have hfree' : ∀ k ok, ops[k]? = some ok → k ≠ i → (listed.setIfInBounds j true).getD k true = false →
          (∀ e ∈ ok.after, Region.binds md e = true → e.on ≠ i) → oi.apart ops ok = true := fun k ok hk hki hun hno => by
        refine hfree k ok hk hki ?_ hno
        by_cases hjk : j = k
        · subst hjk; exact hjun
        · rw [getD_set_ne true hjk] at hun; exact hun
      refine wpOp_mono (fun a' w' h3 => ⟨h3.2.1, ih (listed.setIfInBounds j true) a' w' (hcl.set hj) hfree' (ready_mono hr (Ne.symm hji)) h3.1 (h3.2.1 hjn) ?_⟩) h2
      rw [Array.setIfInBounds_comm _ _ hji]
      exact h3.2.2

/-- A plan: the numbers in an order; those that are not loud are taken out of turn. -/
def planB (md : Region.Mode) (ops : Array Oper) (n : Nat) (loud : List Nat) : List Nat → Array Bool → Bool
  | [], listed => (Region.ready md ops listed).isEmpty
  | i :: rest, listed =>
    (Region.ready md ops listed).contains i &&
    (if loud.contains i then Region.ready md ops listed == [i] && (decide (i < n) || rest.all loud.contains)
     else decide (i < n) && Region.free md ops listed i) &&
    planB md ops n loud rest (listed.setIfInBounds i true)

def planOK (md : Region.Mode) (ops : Array Oper) (n : Nat) (loud order : List Nat) : Bool :=
  Region.noSelect ops && sinks md ops n && chained md ops n && order.length == ops.size && planB md ops n loud order (Array.replicate ops.size false)

def wpPlan (P : Program) (ops : Array Oper) (Q : Exit → Act → World → Prop) (S : World → Prop) (n : Nat) (loud : List Nat) : List Nat → Act → World → Prop
  | [], a, w => Q .normal a w
  | i :: rest, a, w =>
    match ops[i]? with
    | none => False
    | some o =>
      if loud.contains i then wpOp P ops Q i (fun a' w' => (i < n → S w') ∧ wpPlan P ops Q S n loud rest a' w') a w
      else if Region.wanted o (yielded ops a.tmps) then ∃ v, (∀ x, S x → (execOp a.eval o).run P x = .ok (.value v) x) ∧ wpPlan P ops Q S n loud rest (a.put o.dst v) w
      else wpPlan P ops Q S n loud rest (a.put o.dst undef) w

theorem plan_sound {loud : List Nat} (hsel : Region.noSelect ops = true) (hs : sinks md ops n = true) (hc : chained md ops n = true) (hQ : ∀ c a w, ¬ Q (.panic c) a w) :
    ∀ (order : List Nat) (listed : Array Bool) (a : Act) (w : World), planB md ops n loud order listed = true → Closed md ops listed → ((order.all loud.contains) = false → S w) →
      wpPlan P ops Q S n loud order a w → wpAnyT P md ops Q S n order.length listed a w
  | [], listed, a, w, hB, _, _, h => ⟨by simpa [planB] using hB, h⟩
  | i :: rest, listed, a, w, hB, hcl, hS, h => by
    simp only [planB, Bool.and_eq_true] at hB
    obtain ⟨⟨hr, hk⟩, hB'⟩ := hB
    have hr' : i ∈ Region.ready md ops listed := by simpa using hr
    simp only [wpPlan] at h
    cases ho : ops[i]? with
    | none => simp [ho] at h
    | some o =>
      simp only [ho] at h
      by_cases hl : loud.contains i = true
      · rw [if_pos hl] at h hk
        simp only [Bool.and_eq_true, beq_iff_eq, Bool.or_eq_true, decide_eq_true_eq] at hk
        refine ⟨fun h0 => (by rw [h0] at hr'; cases hr'), fun j hj => ?_⟩
        rw [hk.1] at hj
        simp only [List.mem_singleton] at hj
        subst hj
        refine wpOp_mono (fun a' w' h' => ⟨h'.1, plan_sound hsel hs hc hQ rest _ a' w' hB' (hcl.set hr') (fun hq => ?_) h'.2⟩) h
        rcases hk.2 with h2 | h2
        · exact h'.1 h2
        · rw [h2] at hq; cases hq
      · have hl' : loud.contains i = false := by simpa using hl
        rw [if_neg hl] at h hk
        simp only [Bool.and_eq_true, decide_eq_true_eq] at hk
        have hSw : S w := hS (by simp only [List.all_cons, hl', Bool.false_and])
        have hrest : (rest.all loud.contains) = false → S w := fun _ => hSw
        by_cases hw : Region.wanted o (yielded ops a.tmps) = true
        · rw [if_pos hw] at h
          obtain ⟨v, h1, h2⟩ := h
          exact wpAnyT_first (v := v) hs hc hk.1 ho (Region.noSelect_spec hsel) (fun c a w hp => (hQ _ _ _ hp).elim) rest.length listed a w hcl (Region.free_spec ho hk.2) hr' (.inl ⟨hw, h1⟩) hSw
            (plan_sound hsel hs hc hQ rest _ _ w hB' (hcl.set hr') hrest h2)
        · rw [if_neg hw] at h
          exact wpAnyT_first (v := undef) hs hc hk.1 ho (Region.noSelect_spec hsel) (fun c a w hp => (hQ _ _ _ hp).elim) rest.length listed a w hcl (Region.free_spec ho hk.2) hr' (.inr ⟨by simpa using hw, rfl⟩) hSw
            (plan_sound hsel hs hc hQ rest _ _ w hB' (hcl.set hr') hrest h)

/-- What is asked behind a region: it ends as a region does, or the process has outgrown its memory. -/
def Ends (Q : Exit → Act → World → Prop) : Exit → Act → World → Prop
  | .normal, a, w => Q .normal a w
  | .outgrown, a, w => Q .outgrown a w
  | _, _, _ => False

theorem closed_none (m : Nat) : Closed md ops (Array.replicate m false) := by
  intro j i h
  exfalso
  rcases Nat.lt_or_ge j m with hj | hj
  · simp [hj] at h
  · simp [hj] at h

/-- ONE PLAN SERVES EVERY ORDER. -/
theorem wp_region_plan {id : Nat} {a : Act} {w : World} {l : List Oper} (n : Nat) (loud order : List Nat) (S : World → Prop) (hm : P.follows .mixedOrders = true) (hB : planOK .any l.toArray n loud order = true)
    (hS : S w.drew) (h : wpPlan P l.toArray (Ends Q) S n loud order a w.drew) : (Code.region id l.toArray true).wp P Q a w := by
  simp only [planOK, Bool.and_eq_true, beq_iff_eq] at hB
  obtain ⟨⟨⟨⟨h1, h2⟩, h3⟩, h4⟩, h5⟩ := hB
  have h6 := plan_sound (P := P) (Q := Ends Q) h1 h2 h3 (fun _ _ _ hp => hp) order _ a w.drew h5 (closed_none _) (fun _ => hS) h
  rw [h4] at h6
  exact Code.wp_mono (fun e a w q => by cases e <;> first | exact q | exact q.elim) (wp_region_any hm (wpAny_of_T _ _ _ _ h6))

section steps
variable {loud rest : List Nat} {i : Nat} {o : Oper} {a : Act} {w : World}
theorem plan_end (h : Q .normal a w) : wpPlan P ops (Ends Q) S n loud [] a w := h
theorem plan_q (ho : ops[i]? = some o) (hl : loud.contains i = false) (hw : Region.wanted o (yielded ops a.tmps) = true) (v : Value) (hrun : ∀ x, S x → (execOp a.eval o).run P x = .ok (.value v) x)
    (h : wpPlan P ops Q S n loud rest (a.put o.dst v) w) : wpPlan P ops Q S n loud (i :: rest) a w := by
  simp only [wpPlan, ho, hl, Bool.false_eq_true, if_false, hw, if_true]
  exact ⟨v, hrun, h⟩
theorem plan_skip (ho : ops[i]? = some o) (hw : Region.wanted o (yielded ops a.tmps) = false) (h : wpPlan P ops Q S n loud rest (a.put o.dst undef) w) (hl : loud.contains i = false) : wpPlan P ops Q S n loud (i :: rest) a w := by
  simp only [wpPlan, ho, hl, Bool.false_eq_true, if_false, hw]
  exact h
/-- by the walk's own simp: what is yielded is found by running it in whatever world -/
theorem plan_pure (ho : ops[i]? = some o) (hl : loud.contains i = false)
    (h : ∀ K : Act → Prop, (∀ a', wpPlan P ops Q S n loud rest a' w → K a') → if Region.wanted o (yielded ops a.tmps) then (∃ v, (∀ x : { x // S x }, (execOp a.eval o).run P x.1 = .ok (.value v) x.1) ∧ K (a.put o.dst v)) else K (a.put o.dst undef)) :
    wpPlan P ops Q S n loud (i :: rest) a w := by
  simp only [wpPlan, ho, hl, Bool.false_eq_true, if_false]
  have h1 := h _ (fun _ h => h)
  split
  · rename_i hw
    rw [if_pos hw] at h1
    obtain ⟨v, h2, h3⟩ := h1
    exact ⟨v, fun x hx => h2 ⟨x, hx⟩, h3⟩
  · rename_i hw
    rw [if_neg hw] at h1
    exact h1
theorem plan_l (ho : ops[i]? = some o) (hl : loud.contains i = true) (hw : Region.wanted o (yielded ops a.tmps) = true)
    (h : ∀ K : Act → World → Prop, (∀ a' w', (i < n → S w') → wpPlan P ops Q S n loud rest a' w' → K a' w') → o.wp P a w K Q) : wpPlan P ops Q S n loud (i :: rest) a w := by
  simp only [wpPlan, ho, hl, if_true, wpOp, hw]
  exact .inl (h _ (fun _ _ h1 h2 => ⟨h1, h2⟩))
end steps
end
end Go.Dk

/- Slices of bytes that are made: make, append onto nil. Plain lemmas over the model; no program. -/
namespace Go.Dk
open Go Go.RowKit
/-- cells of one byte -/
def byteInfo (P : Program) (e : TypeId) : Prop := (P.info? e).map (fun i => (i.zero, i.size, i.bytes)) = some (some (.int .u8 0), 1, 1)
theorem byteInfo_spec {P : Program} {e : TypeId} (h : byteInfo P e) : ∃ i, P.info? e = some i ∧ i.zero = some (.int .u8 0) ∧ i.size = 1 ∧ i.bytes = 1 := by
  unfold byteInfo at h
  cases hi : P.info? e with
  | none => simp [hi] at h
  | some i =>
    rw [hi] at h
    simp only [Option.map_some, Option.some.injEq, Prod.mk.injEq] at h
    exact ⟨i, rfl, h.1, h.2.1, h.2.2⟩
theorem Bts.fresh {w0 w : World} {L : List Row} {A : Option Addr} {l : List UInt8} (h : Bts w0 A l) (hA : At w0 L w) (hn : ∀ r ∈ L, w0.heap.size ≤ r.1) : Bts w A l := fun hne => by
  obtain ⟨b, o, rfl, hb, hc⟩ := h hne
  have hs := hA.size
  refine ⟨b, o, rfl, by omega, fun i hi => (hA.old hb (fun hm => ?_) _ _).trans (hc i hi)⟩
  obtain ⟨r, hr, rfl⟩ := List.mem_map.1 hm
  have := hn r hr
  omega
section
variable {P : Program} {ops : Array Oper} {Q : Exit → Act → World → Prop} {a : Act} {w0 w : World} {L : List Row} {rest : List Oper} {o : Oper}
theorem run_convert_str {t t' e : TypeId} {x : Operand} (ho : o.op = .convert t t' x) (hu : P.underlying t = some (.slice e)) (he : P.underlying e = some (.int .u8)) (hd : P.underlying t' = some .string)
    {A : Option Addr} {c n : Nat} {l : List UInt8} (hx : a.eval x = .slice A n c) (hn : n = l.length) (hne : l ≠ []) (hr : Bts w A l) : (execOp a.eval o).run P w = .ok (.value (.string ⟨l.toArray⟩)) w := by
  subst hn
  obtain ⟨b, o', rfl, hb, hc⟩ := hr hne
  have h := run_convert_bytes_back (P := P) w t t' e ⟨b, o', none⟩ c l hu he hd (fun j hj => by rw [Addr.add_mid, hc j hj]; simp [bAt, hj])
  unfold execOp
  simp only [ho, hx, Sem.run_bind, h, Result.andThen_ok, Sem.run_pure]
/-- a slice literal -/
theorem wp_bs {K : Act → World → Prop} {t : TypeId} {n : Nat} {ps : Array (Nat × Operand)} (ho : o.op = .buildSlice t n ps) (hA : At w0 L w) {e : TypeId} {cells : Array Value}
    (hr : (Instr.buildSlice t n (ps.map fun (i, x) => (i, a.eval x))).run P w = .ok (.slice (some ⟨w.heap.size, 0, none⟩) n n) (w.alloc (.cells cells e)))
    (h : ∀ g w', w.heap.size ≤ g → At w0 ((g, e, cells.toList) :: L) w' → K (a.put o.dst (.slice (some ⟨g, 0, none⟩) n n)) w') : o.wp P a w K Q := by
  have h1 := h w.heap.size (w.alloc (.cells cells e)) (Nat.le_refl _) (hA.alloc _ _)
  unfold Oper.wp execOp
  simp only [ho, Sem.run_bind, hr, Result.andThen_ok, Sem.run_pure]
  exact h1
end
end Go.Dk

/- Small rules of the walk: which operation stands next, by the slot that it writes. Plain lemmas over the model; no program. -/
namespace Go.Dk
open Go Go.RowKit
section
variable {P : Program} {ops : Array Oper} {Q : Exit → Act → World → Prop} {a : Act} {w0 w : World} {L : List Row} {rest : List Oper} {o : Oper}
theorem val_u64 {a b : Int} (h : a = b) : Value.int .u64 a = .int .u64 b := by rw [h]
end
end Go.Dk

/- A slice of one's own that is appended to again and again: nil, or a row of its own at the list's end. Plain lemmas over the model; no program. -/
namespace Go.Dk
open Go Go.RowKit
theorem At.perm {w0 w : World} {L L' : List Row} (h : At w0 L w) (hp : L.Perm L') : At w0 L' w :=
  ⟨h.os, h.tape, h.output, h.size, fun r hr => h.rows r (hp.mem_iff.2 hr), (hp.map (·.1)).nodup_iff.1 h.dist,
   fun k hk hn => h.frame k hk (fun hm => hn ((hp.map (·.1)).mem_iff.1 hm))⟩
/-- what is known of an element's type: its zero, its cells, its bytes -/
def elemInfo (P : Program) (e : TypeId) (size bytes : Nat) : Prop := ∃ i z, P.info? e = some i ∧ i.zero = some z ∧ i.size = size ∧ i.bytes = bytes ∧ z.cells.size = size
theorem elemInfo_byte {P : Program} {e : TypeId} (h : byteInfo P e) : elemInfo P e 1 1 := by
  obtain ⟨i, h1, h2, h3, h4⟩ := byteInfo_spec h
  exact ⟨i, _, h1, h2, h3, h4, rfl⟩
theorem elemInfo_of {P : Program} {e : TypeId} {size bytes : Nat} {z : Value} (h : (P.info? e).map (fun i => (i.zero, i.size, i.bytes)) = some (some z, size, bytes)) (hz : z.cells.size = size) : elemInfo P e size bytes := by
  cases hi : P.info? e with
  | none => simp [hi] at h
  | some i =>
    rw [hi] at h
    simp only [Option.map_some, Option.some.injEq, Prod.mk.injEq] at h
    exact ⟨i, z, hi, h.1, h.2.1, h.2.2, hz⟩
/-- the slice v, of n elements, holds the cells W; X: its row, if it has one -/
def Own (w0 : World) (e : TypeId) (size : Nat) (X : List Row) (v : Value) (n : Nat) (W : List Value) : Prop :=
  W.length = n * size ∧ ((v = .slice none 0 0 ∧ n = 0 ∧ X = []) ∨ ∃ g c Z, v = .slice (some ⟨g, 0, none⟩) n c ∧ n ≤ c ∧ w0.heap.size ≤ g ∧ Z.length = (c - n) * size ∧ X = [(g, e, W ++ Z)])
theorem Own.nil (w0 : World) (e : TypeId) (size : Nat) : Own w0 e size [] (.slice none 0 0) 0 [] := ⟨by simp, .inl ⟨rfl, rfl, rfl⟩⟩
section
variable {w0 w : World} {R X : List Row} {e : TypeId} {size n : Nat} {v : Value} {W : List Value}
theorem Own.slice (h : Own w0 e size X v n W) : ∃ A c, v = .slice A n c ∧ n ≤ c := by
  rcases h.2 with ⟨h1, h2, _⟩ | ⟨g, c, _, h1, h2, _⟩
  · subst h2; exact ⟨_, _, h1, Nat.le_refl _⟩
  · exact ⟨_, _, h1, h2⟩
theorem Own.new (h : Own w0 e size X v n W) : ∀ r ∈ X, w0.heap.size ≤ r.1 := by
  rcases h.2 with ⟨_, _, h3⟩ | ⟨g, c, Z, _, _, h3, _, h5⟩
  · subst h3; intro r hr; cases hr
  · subst h5; intro r hr; simp only [List.mem_singleton] at hr; subst hr; exact h3
/-- its bytes can be read -/
theorem Own.bts {l : List UInt8} (h : Own w0 e 1 X v n (dc l)) (hA : At w0 (R ++ X) w) : ∃ A c, v = .slice A n c ∧ n ≤ c ∧ n = l.length ∧ Bts w A l ∧ ∀ ad, A = some ad → ad.block < w.heap.size ∧ w0.heap.size ≤ ad.block ∧ ad.block ∈ X.map (·.1) := by
  have hn : n = l.length := by have := h.1; rw [dc_length] at this; omega
  rcases h.2 with ⟨h1, h2, _⟩ | ⟨g, c, Z, h1, h2, h3, _, h5⟩
  · have : l = [] := List.length_eq_zero_iff.1 (by omega)
    subst this
    subst h2
    exact ⟨_, _, h1, Nat.le_refl _, hn, Bts.nil _ _, fun ad he => by cases he⟩
  · subst h5
    have hk : (R ++ [(g, e, dc l ++ Z)])[R.length]? = some (g, e, dc l ++ Z) := by simp
    refine ⟨_, _, h1, h2, hn, Bts.row hA hk (by rw [List.drop_zero, List.take_append_of_le_length (by rw [dc_length]; exact Nat.le_refl _), List.take_of_length_le (by rw [dc_length]; exact Nat.le_refl _)]), fun ad he => ?_⟩
    cases he
    exact ⟨hA.lt hk, h3, by simp⟩
theorem zc_length (zs : Array Value) (n : Nat) : (Builtin.zeroCells zs n).toList.length = n * zs.size := by simp [Builtin.zeroCells]
end
section
variable {P : Program} {ops : Array Oper} {Q : Exit → Act → World → Prop} {a : Act} {w0 w : World} {R X : List Row} {rest : List Oper} {o : Oper}
theorem Bts.src {A : Option Addr} {l : List UInt8} {c : Nat} {tx e' : TypeId} (hux : P.underlying tx = some (.slice e')) (hr : Bts w A l) : Src P 1 tx (.slice A l.length c) l.length (dc l) w := by
  by_cases hl : l = []
  · subst hl
    cases A with
    | none => exact Src.ofNil w hux c
    | some ad => exact Src.ofSlice w hux ad 0 c [] (by simp) (fun j u hj => by simp at hj) (fun u hu => by cases hu)
  · obtain ⟨b, o', rfl, hbl, hcell⟩ := hr hl
    exact Src.ofSlice w hux ⟨b, o', none⟩ l.length c (dc l) (by rw [dc_length, Nat.mul_one])
      (fun j u hj => by
        have hjl : j < l.length := by have := (List.getElem?_eq_some_iff.1 hj).1; rwa [dc_length] at this
        rw [dc_at hjl] at hj
        rw [Addr.add_mid, hcell j hjl, ← hj]) (dc_one l)
/-- setCells of a part of a row -/
theorem At.setCells {L : List Row} {k g : Nat} {t : TypeId} {cs new : List Value} {off : Nat} (h : At w0 L w) (hk : L[k]? = some (g, t, cs)) (hl : off + new.length ≤ cs.length) :
    At w0 (L.set k (g, t, splice cs off new)) (w.setCells g off new) := by
  induction new generalizing off w L cs with
  | nil =>
    have e1 : splice cs off [] = cs := by simp [splice]
    have e2 : L.set k (g, t, cs) = L := by
      apply List.ext_getElem?
      intro i
      rw [List.getElem?_set]
      split
      · rename_i e
        subst e
        obtain ⟨hkl, hv⟩ := List.getElem?_eq_some_iff.1 hk
        simp [hkl, hv]
      · rfl
    rw [e1, e2]
    exact h
  | cons v rest ih =>
    have hkl : k < L.length := (List.getElem?_eq_some_iff.1 hk).1
    simp only [List.length_cons] at hl
    have h1 := h.put hk (cs.set off v)
    have hs : w.setCell ⟨g, off, none⟩ v = w.setRow g (cs.set off v).toArray := by
      rw [setCell_eq_setRow w g off _ t (0, 0) v (h.row hk)]
      simp
    rw [← hs] at h1
    have h2 := ih (off := off + 1) (cs := cs.set off v) h1 (by simp [hkl]) (by simp; omega)
    have e1 : splice (cs.set off v) (off + 1) rest = splice cs off (v :: rest) := by
      unfold splice
      have hoff : off < cs.length := by omega
      rw [List.take_set, List.take_succ_eq_append_getElem hoff, List.set_append, if_neg (by rw [List.length_take]; omega), List.length_take, show off - min off cs.length = 0 by omega, List.drop_set_of_lt (by omega)]
      simp [Nat.add_assoc, Nat.add_comm 1]
    rw [e1, List.set_set] at h2
    exact h2
theorem own_append {y : Operand} {x : Operand} {t tx e : TypeId} {size bytes : Nat} (ho : o.op = .call { callee := .builtin .append, args := #[x, y], argTypes := #[t, tx] })
    (hA : At w0 (R ++ X) w) {v : Value} {n : Nat} {W : List Value} (hO : Own w0 e size X v n W) (hu : P.underlying t = some (.slice e)) (hb : elemInfo P e size bytes) (hx : a.eval x = v)
    {yv : Value} (hy : a.eval y = yv) {m : Nat} {news : List Value} (hs : Src P size tx yv m news w) (hmax : (n + m + (n + m) / 4 + 192) * bytes ≤ 281474976710656) (hbp : 0 < bytes) :
    ∃ v' X' w', (execOp a.eval o).run P w = .ok (.value v') w' ∧ Own w0 e size X' v' (n + m) (W ++ news) ∧ At w0 (R ++ X') w' := by
  obtain ⟨i, z, hi, hz, hsz, hbb, hzs⟩ := hb
  have hmx : n + m + (n + m) / 4 + 192 ≤ 281474976710656 := Nat.le_trans (Nat.le_mul_of_pos_right _ hbp) hmax
  have hs' : Src P i.size tx yv m news w := by rw [hsz]; exact hs
  have hgrow : ∀ (A : Option Addr) (c : Nat) (olds : List Value), olds = W → v = .slice A n c → c < n + m → (Builtin.firstCells i.size n (.slice A n c)).run P w.drew = .ok olds.toArray w.drew → (∀ r ∈ X, w0.heap.size ≤ r.1) →
      ∃ v' X' w', (execOp a.eval o).run P w = .ok (.value v') w' ∧ Own w0 e size X' v' (n + m) (W ++ news) ∧ At w0 (R ++ X') w' := by
    intro A c olds he hv hg hold hX
    subst he hv
    have hcap : Builtin.nextslicecap (n + m) c * i.bytes ≤ 281474976710656 := by
      have h1 := nextslicecap_le_wide (need := n + m) (old := c) hg
      rw [hbb]
      exact Nat.le_trans (Nat.mul_le_mul_right _ h1) hmax
    have hrun := run_append_grow_src (P := P) w t tx o.type e i z hu hi hz A n c olds hold yv m news hs' hg (by omega) hcap
    have hqge := grownCap_ge w (n + m) c e
    generalize grownCap w (n + m) c e = q at hrun hqge
    have h1 := hA.drew.alloc ((olds ++ news).toArray ++ Builtin.zeroCells z.cells (q - (n + m))) e
    rw [Array.toList_append, List.toList_toArray] at h1
    refine ⟨.slice (some ⟨w.heap.size, 0, none⟩) (n + m) q, [(w.heap.size, e, (olds ++ news) ++ (Builtin.zeroCells z.cells (q - (n + m))).toList)], w.drew.alloc (.cells ((olds ++ news).toArray ++ Builtin.zeroCells z.cells (q - (n + m))) e), ?_, ⟨?_, .inr ⟨w.heap.size, q, (Builtin.zeroCells z.cells (q - (n + m))).toList, rfl, hqge, hA.size, by rw [zc_length, hzs], rfl⟩⟩, ?_⟩
    · unfold execOp
      simp only [ho, hx, hy, resolve, invoke, builtin, Sem.run_bind, Sem.run_pure, Result.andThen_ok, List.map_toArray, List.map_cons, List.map_nil, hrun]
    · rw [List.length_append, hO.1, hs.newsLen, Nat.add_mul]
    · have h2 : At w0 (((w.heap.size, e, (olds ++ news) ++ (Builtin.zeroCells z.cells (q - (n + m))).toList) : Row) :: R) (w.drew.alloc (.cells ((olds ++ news).toArray ++ Builtin.zeroCells z.cells (q - (n + m))) e)) := by
        refine h1.drop (List.Sublist.cons_cons _ (List.sublist_append_left _ _)) (fun r hr hlt => ?_)
        simp only [List.mem_cons, List.mem_append] at hr ⊢
        rcases hr with rfl | hr | hr
        · exact .inl rfl
        · exact .inr hr
        · exact absurd (hX r hr) (by omega)
      exact h2.perm (by exact (List.perm_append_singleton _ _).symm)
  rcases hO.2 with ⟨hv, hn, hX⟩ | ⟨g, c, Z, hv, hnc, hg, hZ, hX⟩
  · subst hn
    have hW : W = [] := List.length_eq_zero_iff.1 (by rw [hO.1]; omega)
    by_cases hm : m = 0
    · subst hm
      have hnews : news = [] := List.length_eq_zero_iff.1 (by rw [hs.newsLen]; omega)
      refine ⟨v, X, w, ?_, by rw [hnews, List.append_nil]; exact hO, hA⟩
      subst hv
      have hlen := hs'.len w
      have hcells := hs'.cells
      rw [hnews] at hcells
      unfold execOp
      rcases hs.kind with ⟨e', hk⟩ | hk <;>
        simp [ho, hx, hy, resolve, invoke, builtin, Builtin.append_, run_underlying hu, run_underlying hk, sizeOf, typeInfo, hi, hlen, hcells]
    · exact hgrow none 0 [] hW.symm hv (by omega) (run_firstCells_none w.drew i.size 0 0 0) hO.new
  · subst hX
    have hk : (R ++ [(g, e, W ++ Z)])[R.length]? = some (g, e, W ++ Z) := by simp
    by_cases hroom : n + m ≤ c
    · have hnl : news.length ≤ Z.length := by
        rw [hs.newsLen, hZ]; exact Nat.mul_le_mul_right _ (by omega)
      have hWl : n * i.size = W.length := by rw [hsz, hO.1]
      have hrun := run_append_room_src (P := P) w t tx o.type e i hu hi g 0 n c yv m news hs' hroom
        (fun j hj => by
          rw [hA.cell hk, Nat.zero_add, hWl, List.getElem?_eq_getElem (by rw [List.length_append]; omega)]; rfl)
        (fun j hj => hA.frozen hk _)
      rw [Nat.zero_add, hWl] at hrun
      have h1 := hA.setCells (off := W.length) (new := news) hk (by rw [List.length_append]; omega)
      have e1 : splice (W ++ Z) W.length news = (W ++ news) ++ Z.drop news.length := by
        unfold splice
        rw [List.take_left' rfl, List.drop_append, List.drop_of_length_le (by omega), List.nil_append, show W.length + news.length - W.length = news.length by omega]
      have e2 : (R ++ [(g, e, W ++ Z)]).set R.length (g, e, (W ++ news) ++ Z.drop news.length) = R ++ [(g, e, (W ++ news) ++ Z.drop news.length)] := by simp
      rw [e1, e2] at h1
      refine ⟨.slice (some ⟨g, 0, none⟩) (n + m) c, _, _, ?_, ⟨?_, .inr ⟨g, c, Z.drop news.length, rfl, hroom, hg, ?_, rfl⟩⟩, h1⟩
      · unfold execOp
        simp only [ho, hx, hy, hv, resolve, invoke, builtin, Sem.run_bind, Sem.run_pure, Result.andThen_ok, List.map_toArray, List.map_cons, List.map_nil, hrun]
      · rw [List.length_append, hO.1, hs.newsLen, Nat.add_mul]
      · rw [List.length_drop, hZ, hs.newsLen, ← Nat.sub_mul, Nat.sub_sub]
    · refine hgrow (some ⟨g, 0, none⟩) c W rfl hv (by omega) ?_ hO.new
      exact run_firstCells_some (P := P) w.drew i.size n ⟨g, 0, none⟩ n c W (by rw [hO.1, hsz]) (fun j u hj => by
        rw [Addr.add_mid, hA.drew.cell hk, Nat.zero_add, List.getElem?_append_left (List.getElem?_eq_some_iff.1 hj).1, hj])
theorem wp_own_append {K : Act → World → Prop} {y : Operand} {x : Operand} {t tx e : TypeId} {size bytes : Nat} (ho : o.op = .call { callee := .builtin .append, args := #[x, y], argTypes := #[t, tx] })
    (R : List Row) (hA : At w0 (R ++ X) w) {v : Value} {n : Nat} {W : List Value} (hO : Own w0 e size X v n W) (hu : P.underlying t = some (.slice e)) (hb : elemInfo P e size bytes) (hx : a.eval x = v)
    {yv : Value} (hy : a.eval y = yv) {m : Nat} {news : List Value} (hs : Src P size tx yv m news w) (hmax : (n + m + (n + m) / 4 + 192) * bytes ≤ 281474976710656) (hbp : 0 < bytes)
    (h : ∀ v' X' w', Own w0 e size X' v' (n + m) (W ++ news) → At w0 (R ++ X') w' → K (a.put o.dst v') w') : o.wp P a w K Q := by
  obtain ⟨v', X', w', h1, h2, h3⟩ := own_append ho hA hO hu hb hx hy hs hmax hbp
  unfold Oper.wp
  rw [h1]
  exact h v' X' w' h2 h3
end
end Go.Dk
