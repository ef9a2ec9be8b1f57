/- How arguments are opened, cell by cell: slices of anything, texts, arrays. Plain lemmas over the model; no program. -/
import Derived.Test.YtepbmdlgdaedpaaGreatDoorOpenS
import Derived.Test.YtepbmdlgdaedpaaGreatDoorHs
namespace Go.Dk
open Go Go.ChangeShapes Go.WideShapes Go.ChangeAt Go.RowKit Go.Deep
/-- these cells stand from the address on -/
def Cl (w : World) (A : Option Addr) (W : List Value) : Prop := W ≠ [] → ∃ b o, A = some ⟨b, o, none⟩ ∧ b < w.heap.size ∧ ∀ i, i < W.length → w.cell? ⟨b, o + i, none⟩ = W[i]?
theorem Cl.rc {w0 : World} {R : List Seg} {A : Option Addr} {W : List Value} (h : Cl w0 A W) : Rc w0 R A W := fun hne => by
  obtain ⟨b, o, h1, h2, h3⟩ := h hne
  refine ⟨b, o, h1, fun x hx => ⟨by have := hx.size; omega, fun i hi => ?_⟩⟩
  rw [← h3 i hi]
  simp only [World.cell?, hx.old h2]
theorem choose_map {α β : Type} {f : α → β} {Pr : α → Prop} (Ws : List β) (h : ∀ W ∈ Ws, ∃ x, W = f x ∧ Pr x) : ∃ xs : List α, Ws = xs.map f ∧ ∀ x ∈ xs, Pr x := by
  induction Ws with
  | nil => exact ⟨[], rfl, fun _ h => by cases h⟩
  | cons W Ws ih =>
    obtain ⟨x, hx, hp⟩ := h W (List.mem_cons_self ..)
    obtain ⟨xs, hxs, hps⟩ := ih (fun V hV => h V (List.mem_cons_of_mem _ hV))
    refine ⟨x :: xs, by rw [List.map_cons, hx, hxs], fun y hy => ?_⟩
    rcases List.mem_cons.1 hy with rfl | hy
    · exact hp
    · exact hps y hy
section
variable {H : Type} {enc : TypeId × Value → H} {P : Program} {w : World} {held : Bool} {t e : TypeId} {v : Value} {d : DataW H} {p : List MemPlace} {cs : List Value} {x : DataW H × List MemPlace} {fuel : Nat}
theorem cells_slice {sz : Nat} (ht : P.underlying t = some (.slice e)) (hsz : P.cellsOf e = sz) (hpos : 0 < sz) (h : DataW.trod enc P w 0 (fun _ => true) held fuel t cs = some x) :
    ∃ (A : Option Addr) (Ws : List (List Value)) (c : Nat), cs = [.slice A Ws.length c] ∧ Ws.length ≤ c ∧ Ws.length ≤ 9223372036854775807 ∧ (∀ W ∈ Ws, W.length = sz ∧ ∃ m y, DataW.trod enc P w 0 (fun _ => true) held m e W = some y) ∧ Cl w A Ws.flatten := by
  rcases DataW.trod_slice ht h with ⟨hcs, hx⟩ | ⟨a, len, cap, elems, rest, m, _, hcs, hx, _, hlc, hcm, hel, hget, _, _⟩
  · exact ⟨none, [], 0, hcs, Nat.le_refl _, by decide, (fun _ h => by cases h), fun h => absurd rfl h⟩
  · have hmx : maxLen = 9223372036854775807 := rfl
    rw [hsz] at hget
    have each : ∀ i, i < len → ∃ (y : List Value × (DataW H × List MemPlace)), w.cells? 0 (a.add (i * sz)) sz = some y.1 ∧ DataW.trod enc P w 0 (fun _ => true) held m e y.1 = some y.2 := by
      intro i hi
      have h1 := hget i hi
      have h2 : elems[i]? = some (elems[i]'(by omega)) := List.getElem?_eq_getElem (by omega)
      rw [h2] at h1
      obtain ⟨cs, h3, h4⟩ := Option.bind_eq_some_iff.1 h1
      exact ⟨(cs, elems[i]'(by omega)), h3, h4⟩
    obtain ⟨y, hy⟩ := choose_lt each
    have hws : ∀ W ∈ (List.range len).map (fun i => (y i).1), W.length = sz ∧ ∃ m y, DataW.trod enc P w 0 (fun _ => true) held m e W = some y := by
      intro W hW
      obtain ⟨i, hi, rfl⟩ := List.mem_map.1 hW
      have hi := List.mem_range.1 hi
      obtain ⟨_, hl1, _⟩ := World.cells?_some (hy i hi).1
      exact ⟨hl1, m, _, (hy i hi).2⟩
    refine ⟨some a, (List.range len).map (fun i => (y i).1), cap, by simp [hcs], by simp; omega, by simp; omega, hws, fun hne => ?_⟩
    have hn : 0 < len := by
      rcases Nat.eq_zero_or_pos len with h0 | h0
      · subst h0; simp at hne
      · exact h0
    obtain ⟨_, hl0, h0⟩ := World.cells?_some (hy 0 hn).1
    have h00 := h0 0 hpos
    rw [List.getElem?_eq_getElem (by omega)] at h00
    have e0 : a.add (0 * sz) = a := by rw [Nat.zero_mul]; simp [Addr.add]
    rw [e0] at h00
    have hp := addr_plain h00 rfl
    refine ⟨a.block, a.off, by rw [← hp], ?_, fun k hk => ?_⟩
    · have := block_lt_of_cell h00
      simpa [Addr.add] using this
    · rw [flat_len (fun W hW => (hws W hW).1)] at hk
      simp only [List.length_map, List.length_range] at hk
      have hkd : k / sz < len := (Nat.div_lt_iff_lt_mul hpos).2 hk
      have hkm := Nat.mod_lt k hpos
      have hke := Nat.div_add_mod k sz
      rw [Nat.mul_comm] at hke
      obtain ⟨hat, hle⟩ := flat_at (z := sz) (Ws := (List.range len).map (fun i => (y i).1)) (V := (y (k / sz)).1) (i := k / sz) (fun W hW => (hws W hW).1) (by rw [List.getElem?_map, List.getElem?_range hkd]; rfl)
      obtain ⟨_, _, h1⟩ := World.cells?_some (hy (k / sz) hkd).1
      have h2 := h1 (k % sz) hkm
      rw [hp, Addr.add_mid, Addr.add_mid, Nat.add_assoc, hke] at h2
      rw [h2, ← hat, List.getElem?_take, if_pos hkm, List.getElem?_drop, hke]
theorem cells_array {n : Nat} (ht : P.underlying t = some (.array n e)) (he : P.underlying e = some (.int .u8)) (hc : P.cellsOf e = 1) (hcs : cs.length = n) (h : DataW.trod enc P w 0 (fun _ => true) held fuel t cs = some x) : ∃ D : List UInt8, cs = dc D ∧ D.length = n := by
  obtain ⟨xs, m, _, _, _, hl, hel⟩ := DataW.trod_array ht h
  refine ⟨cs.map byteOf, ?_, by simpa using hcs⟩
  apply List.ext_getElem
  · simp [dc]
  · intro i h1 h2
    have hi : i < n := by omega
    have h3 := hel i hi
    rw [hc, Nat.mul_one, List.getElem?_eq_getElem (by omega)] at h3
    obtain ⟨z, hz, _, hw⟩ := DataW.trod_int he h3
    have hcell : cs[i] = .int .u8 z := by
      have h4 : (cs.drop i).take 1 = [cs[i]'(by omega)] := by rw [List.drop_eq_getElem_cons (by omega)]; rfl
      rw [h4] at hz
      exact (List.cons.inj hz).1
    simp [dc, hcell, byteOf_ok hw]
theorem cell_split (l : List Value) (k m : Nat) : l.drop k = (l.drop k).take m ++ l.drop (k + m) := by
  rw [← List.drop_drop]
  exact (List.take_append_drop m _).symm
theorem cells_int {k : IntKind} (ht : P.underlying t = some (.int k)) (h : DataW.trod enc P w 0 (fun _ => true) held fuel t cs = some x) : ∃ n, cs = [.int k n] ∧ k.min ≤ n ∧ n ≤ k.max := by
  obtain ⟨n, h1, _, h2⟩ := DataW.trod_int ht h
  exact ⟨n, h1, by simpa [Lit.wf] using h2⟩
/-- a value of one cell that is a slice -/
theorem slice_of_cells {r : Reach} {b0 : Nat} {A : Option Addr} {n c : Nat} (ht : P.underlying t = some (.slice e)) (hv : Value.okWide P w r b0 t v) (h : v.cells.toList = [.slice A n c]) : v = .slice A n c := by
  cases v with
  | agg cs => simp [Value.okWide, ht, Cell.okWide, Cell.ok] at hv
  | tuple cs => simp [Value.okWide, ht, Cell.okWide, Cell.ok] at hv
  | slice _ _ _ => simpa [Value.cells] using h
  | _ => simp [Value.cells] at h
end
end Go.Dk
