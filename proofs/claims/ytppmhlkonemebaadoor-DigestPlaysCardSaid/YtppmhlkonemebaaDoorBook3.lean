/- One of many segments; an element written over. Plain lemmas; no program. -/
import Derived.Test.YtppmhlkonemebaaDoorBook2
namespace Go.Dk
open Go Go.RowKit
section
variable {w0 w : World} {R : List Seg} {e : TypeId} {v : Value} {m i : Nat} {W : List Value} {X : Seg} {XS : List Seg}
theorem sub1 {X : Seg} {R : List Seg} (h : X ∈ R) : [X] ⊆ R := fun _ hx => by rw [List.mem_singleton] at hx; rw [hx]; exact h
theorem Hp.outS (h : Hp w0 (XS.flatten :: R) w) (hX : XS[i]? = some X) : Hp w0 (X :: (XS.eraseIdx i).flatten :: R) w := Hl.perm h (by
  simp only [List.flatten_cons]
  rw [← List.append_assoc]
  exact (segs_out hX).append_right _)
theorem Hp.inS (h : Hp w0 (X :: (XS.eraseIdx i).flatten :: R) w) (hi : i < XS.length) : Hp w0 ((XS.set i X).flatten :: R) w := Hl.perm h (by
  simp only [List.flatten_cons]
  rw [← List.append_assoc]
  exact (segs_in hi).append_right _)
theorem Buf.setAt (h : Buf e 1 X v m W) (hi : i < m) : ∃ g B Z c, v = .slice (some ⟨g, B.length, none⟩) m c ∧ X = [row g e (B ++ W ++ Z)] ∧ W.length = m ∧ ∀ u, Buf e 1 [row g e ((B ++ W ++ Z).set (B.length + i) u)] v m (W.set i u) := by
  have hW := h.1
  rcases h.2 with ⟨_, h2, _⟩ | ⟨g, c, B, Z, h1, h2, h3, h4⟩
  · omega
  · refine ⟨g, B, Z, c, h1, h4, by omega, fun u => ⟨by rw [List.length_set]; exact hW, .inr ⟨g, c, B, Z, h1, h2, h3, ?_⟩⟩⟩
    have e1 : (B ++ W ++ Z).set (B.length + i) u = B ++ W.set i u ++ Z := by
      rw [List.append_assoc, List.set_append_right _ _ (Nat.le_add_right _ _), Nat.add_sub_cancel_left, List.set_append_left _ _ (by omega), List.append_assoc]
    rw [e1]
theorem map_set_same {α β : Type} {f : α → β} {qs : List α} {q q' : α} (hq : qs[i]? = some q) (hf : f q' = f q) : (qs.set i q').map f = qs.map f := by
  rw [List.map_set, hf]
  apply List.ext_getElem?
  intro j
  by_cases hj : i = j
  · subst hj
    have h1 : (qs.map f)[i]? = some (f q) := by rw [List.getElem?_map, hq]; rfl
    rw [h1]
    exact List.getElem?_set_self (List.getElem?_eq_some_iff.1 h1).1
  · rw [List.getElem?_set_ne hj]
end
end Go.Dk
