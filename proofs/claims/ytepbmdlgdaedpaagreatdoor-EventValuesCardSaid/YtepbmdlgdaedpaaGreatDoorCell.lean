/- How arguments are opened, cell by cell: slices of anything, texts, arrays. Plain lemmas over the model; no program. -/
import Derived.Test.YtepbmdlgdaedpaaGreatDoorOpenS
import Derived.Test.YtepbmdlgdaedpaaGreatDoorHs
namespace Go.Dk
open Go Go.ChangeShapes Go.WideShapes Go.ChangeAt Go.RowKit Go.Deep
/-- these cells stand from the address on -/
def Cl (w : World) (A : Option Addr) (W : List Value) : Prop := W ≠ [] → ∃ b o, A = some ⟨b, o, none⟩ ∧ b < w.heap.size ∧ ∀ i, i < W.length → w.cell? ⟨b, o + i, none⟩ = W[i]?
theorem Cl.rc {w0 : World} {R : List Seg} {A : Option Addr} {W : List Value} (h : Cl w0 A W) : Rc w0 R A W := fun hne => by
  obtain ⟨b, o, h1, h2, h3⟩ := h hne
  refine ⟨b, o, h1, fun x hx => ⟨by have := hx.size; omega, fun i hi => ?_⟩⟩
  rw [← h3 i hi]
  simp only [World.cell?, hx.old h2]
theorem choose_map {α β : Type} {f : α → β} {Pr : α → Prop} (Ws : List β) (h : ∀ W ∈ Ws, ∃ x, W = f x ∧ Pr x) : ∃ xs : List α, Ws = xs.map f ∧ ∀ x ∈ xs, Pr x := by
  induction Ws with
  | nil => exact ⟨[], rfl, fun _ h => by cases h⟩
  | cons W Ws ih =>
    obtain ⟨x, hx, hp⟩ := h W (List.mem_cons_self ..)
    obtain ⟨xs, hxs, hps⟩ := ih (fun V hV => h V (List.mem_cons_of_mem _ hV))
    refine ⟨x :: xs, by rw [List.map_cons, hx, hxs], fun y hy => ?_⟩
    rcases List.mem_cons.1 hy with rfl | hy
    · exact hp
    · exact hps y hy
section
variable {H : Type} {enc : TypeId × Value → H} {P : Program} {w : World} {held : Bool} {t e : TypeId} {v : Value} {d : DataW H} {p : List MemPlace} {cs : List Value} {x : DataW H × List MemPlace} {fuel : Nat}
theorem flat_ones {α : Type} (f : α → Value) (xs : List α) : (xs.map fun x => [f x]).flatten = xs.map f := by
  induction xs with
  | nil => rfl
  | cons x xs ih => rw [List.map_cons, List.flatten_cons, ih]; rfl
theorem cell_split (l : List Value) (k m : Nat) : l.drop k = (l.drop k).take m ++ l.drop (k + m) := by
  rw [← List.drop_drop]
  exact (List.take_append_drop m _).symm
theorem cells_int {k : IntKind} (ht : P.underlying t = some (.int k)) (h : DataW.trod enc P w 0 (fun _ => true) held fuel t cs = some x) : ∃ n, cs = [.int k n] ∧ k.min ≤ n ∧ n ≤ k.max := by
  obtain ⟨n, h1, _, h2⟩ := DataW.trod_int ht h
  exact ⟨n, h1, by simpa [Lit.wf] using h2⟩
/-- a value of one cell that is a slice -/
theorem slice_of_cells {r : Reach} {b0 : Nat} {A : Option Addr} {n c : Nat} (ht : P.underlying t = some (.slice e)) (hv : Value.okWide P w r b0 t v) (h : v.cells.toList = [.slice A n c]) : v = .slice A n c := by
  cases v with
  | agg cs => simp [Value.okWide, ht, Cell.okWide, Cell.ok] at hv
  | tuple cs => simp [Value.okWide, ht, Cell.okWide, Cell.ok] at hv
  | slice _ _ _ => simpa [Value.cells] using h
  | _ => simp [Value.cells] at h
end
end Go.Dk
