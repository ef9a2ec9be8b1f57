/- A slice of one's own that may begin inside its row (behind l = l[1:]) and is appended to. Plain lemmas over the model; no program. -/
import Derived.Test.YtepbmdlgdaedpaaGreatDoorMore
import Derived.LaidEqlPtr
namespace Go.Dk
open Go Go.RowKit
/-- the slice v, of n elements, holds the cells W; X: its row, if it has one; what stands ahead of it in the row is not known -/
def OwnP (w0 : World) (e : TypeId) (size : Nat) (X : List Row) (v : Value) (n : Nat) (W : List Value) : Prop :=
  W.length = n * size ∧ ((v = .slice none 0 0 ∧ n = 0 ∧ X = []) ∨ ∃ g c B Z, v = .slice (some ⟨g, B.length, none⟩) n c ∧ n ≤ c ∧ w0.heap.size ≤ g ∧ Z.length = (c - n) * size ∧ X = [(g, e, B ++ W ++ Z)])
section
variable {P : Program} {Q : Exit → Act → World → Prop} {w w0 : World} {n : Nat} {F : List (Nat × Value)} {a : Act} {o : Oper} {d : Nat} {R X : List Row} {e : TypeId} {size m : Nat} {v : Value} {W : List Value}
theorem OwnP.nil (w0 : World) (e : TypeId) (size : Nat) : OwnP w0 e size [] (.slice none 0 0) 0 [] := ⟨by simp, .inl ⟨rfl, rfl, rfl⟩⟩
theorem OwnP.slice (h : OwnP w0 e size X v m W) : ∃ A c, v = .slice A m c ∧ m ≤ c := by
  rcases h.2 with ⟨h1, h2, _⟩ | ⟨g, c, _, _, h1, h2, _⟩
  · subst h2; exact ⟨_, _, h1, Nat.le_refl _⟩
  · exact ⟨_, _, h1, h2⟩
theorem OwnP.one (h : OwnP w0 e size X v m W) : v.oneCell' = true := by
  obtain ⟨A, c, rfl, _⟩ := h.slice
  rfl
theorem OwnP.new (h : OwnP w0 e size X v m W) : ∀ r ∈ X, w0.heap.size ≤ (r : Row).1 := by
  rcases h.2 with ⟨_, _, h3⟩ | ⟨g, c, _, _, _, _, h3, _, h5⟩
  · rw [h3]; intro r hr; cases hr
  · rw [h5]; intro r hr; simp only [List.mem_cons, List.not_mem_nil, or_false] at hr; subst hr; exact h3
/-- behind l[1:] -/
theorem OwnP.tail {u : Value} (h : OwnP w0 e 1 X v (m + 1) (u :: W)) : ∃ g c o, v = .slice (some ⟨g, o, none⟩) (m + 1) (c + 1) ∧ OwnP w0 e 1 X (.slice (some ⟨g, o + 1, none⟩) m c) m W := by
  rcases h.2 with ⟨_, h2, _⟩ | ⟨g, c, B, Z, h1, h2, h3, h4, h5⟩
  · omega
  · obtain ⟨c', rfl⟩ : ∃ c', c = c' + 1 := ⟨c - 1, by omega⟩
    refine ⟨g, c', B.length, h1, ?_, .inr ⟨g, c', B ++ [u], Z, by simp, by omega, h3, by omega, by rw [h5]; simp⟩⟩
    have := h.1
    simp only [List.length_cons] at this
    omega
end
end Go.Dk
