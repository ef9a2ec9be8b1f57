/- Cells of lists of anything; copies; functions as values; what a book of lists holds. Plain lemmas over the model; no program. -/
import Derived.Test.YtpomngkcfbnjoaaDoorHs
namespace Go.Dk
open Go Go.RowKit
/-- elements' cells, one behind the other -/
def cel {α : Type} (C : α → List Value) (l : List α) : List Value := (l.map C).flatten
section
variable {α : Type} {C : α → List Value} {l m : List α} {sz i : Nat} {x : α}
theorem cel_append : cel C (l ++ m) = cel C l ++ cel C m := by unfold cel; rw [List.map_append, List.flatten_append]
theorem cel_len (h : ∀ x ∈ l, (C x).length = sz) : (cel C l).length = l.length * sz := by
  have h1 := flat_len (z := sz) (Ws := l.map C) (fun W hW => by obtain ⟨u, hu, rfl⟩ := List.mem_map.1 hW; exact h u hu)
  rwa [List.length_map] at h1
theorem cel_at (h : ∀ x ∈ l, (C x).length = sz) (hi : l[i]? = some x) : ((cel C l).drop (i * sz)).take sz = C x ∧ i * sz + sz ≤ (cel C l).length :=
  flat_at (z := sz) (Ws := l.map C) (V := C x) (i := i) (fun W hW => by obtain ⟨u, hu, rfl⟩ := List.mem_map.1 hW; exact h u hu) (by rw [List.getElem?_map, hi]; rfl)
end
section
variable {P : Program} {Q : Exit → Act → World → Prop} {w w0 w' : World} {n : Nat} {F : List (Nat × Value)} {a : Act} {o : Oper} {d : Nat} {R S : List Seg} {X : Seg} {e : TypeId} {size m : Nat} {v : Value} {W : List Value} {K : Act → World → Prop} {x y z : Operand} {t tx ty te : TypeId}
end
/-- a list that is kept: the slice, its elements, its memory; its copy -/
structure KeptX (α : Type) where
  v : Value
  l : List α
  X : Seg
  cv : Value
  Z : Seg
section
variable {α : Type}
def kflat (ks : List (KeptX α)) : Seg := ks.flatMap fun k => k.X ++ k.Z
def KOK (C : α → List Value) (e : TypeId) (sz : Nat) (k : KeptX α) : Prop :=
  (∀ x ∈ k.l, (C x).length = sz) ∧ k.l.length ≤ 9223372036854775807 ∧ Buf e sz k.X k.v k.l.length (cel C k.l) ∧ Buf e sz k.Z k.cv k.l.length (cel C k.l)
/-- a book: its row, and behind it all that it holds -/
def BookS (C : α → List Value) (BT se e : TypeId) (sz bb : Nat) (ks : List (KeptX α)) (Y : Seg) : Prop :=
  ks.length ≤ 4000 ∧ ∃ lv wv held XL XW, Buf se 1 XL lv ks.length (ks.map (·.v)) ∧ Buf se 1 XW wv ks.length (ks.map (·.cv)) ∧ (∀ k ∈ ks, KOK C e sz k) ∧ Y = row bb BT [lv, wv, .int .i64 held, .bool false] :: (XL ++ (XW ++ kflat ks))
theorem BookS.new (C : α → List Value) (BT se e : TypeId) (sz bb : Nat) : BookS C BT se e sz bb [] [row bb BT [.slice none 0 0, .slice none 0 0, .int .i64 0, .bool false]] :=
  ⟨Nat.zero_le _, _, _, 0, [], [], Buf.nil _ _, Buf.nil _ _, (fun _ h => by cases h), rfl⟩
theorem Buf.tail {e : TypeId} {X : Seg} {v u : Value} {m : Nat} {W : List Value} (h : Buf e 1 X v (m + 1) (u :: W)) : ∃ g c o, v = .slice (some ⟨g, o, none⟩) (m + 1) (c + 1) ∧ Buf e 1 X (.slice (some ⟨g, o + 1, none⟩) m c) m W := by
  rcases h.2 with ⟨_, h2, _⟩ | ⟨g, c, B, Z, h1, h2, h4, h5⟩
  · omega
  · obtain ⟨c', rfl⟩ : ∃ c', c = c' + 1 := ⟨c - 1, by omega⟩
    refine ⟨g, c', B.length, h1, ?_, .inr ⟨g, c', B ++ [u], Z, by simp, by omega, by omega, by rw [h5]; simp⟩⟩
    have := h.1
    simp only [List.length_cons] at this
    omega
end
section
variable {P : Program} {Q : Exit → Act → World → Prop} {w : World} {n : Nat} {F : List (Nat × Value)} {a : Act} {ops : Array Oper} {rest : List Oper} {o : Oper} {d : Nat}
end
end Go.Dk
