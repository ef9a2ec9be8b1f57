/- Marks written over the kept lists. Plain lemmas; no program. -/
import Derived.Test.YtepbmdlgdaedpaaGreatDoorBook0
namespace Go.Dk
open Go Go.RowKit
section
variable {e : TypeId} {sz n c j : Nat} {X : Seg} {A : Option Addr} {W : List Value}
theorem set_mid {B Z : List Value} {u : Value} (hW : W.length = j) (hZ : 1 ≤ Z.length) : (B ++ W ++ Z).set (B.length + j) u = B ++ W ++ ([u] ++ Z.drop 1) := by
  cases Z with
  | nil => simp at hZ
  | cons z Z =>
    subst hW
    rw [List.set_append_right _ _ (by rw [List.length_append]; exact Nat.le_refl _), List.length_append, Nat.sub_self]
    rfl
end
section
variable {α : Type}
def mkL (mv : Nat → α) (j : Nat) : List α := (List.range j).map mv
/-- a kept list over whose whole capacity marks are written -/
def Mk (C : α → List Value) (e : TypeId) (sz : Nat) (mv : Nat → α) (k : KeptX α) (X : Seg) : Prop := ∃ A c, k.v = .slice A k.l.length c ∧ Buf e sz X (.slice A c c) c (cel C (mkL mv c))
/-- the first i are marked -/
def ApS (C : α → List Value) (e : TypeId) (sz : Nat) (mv : Nat → Nat → α) (ks : List (KeptX α)) (i : Nat) (XS : List Seg) : Prop :=
  XS.length = ks.length ∧ ∀ m k X, ks[m]? = some k → XS[m]? = some X → (m < i → Mk C e sz (mv m) k X) ∧ (i ≤ m → Buf e sz X k.v k.l.length (cel C k.l))
variable {C : α → List Value} {e : TypeId} {sz i : Nat} {mv : Nat → Nat → α} {ks : List (KeptX α)} {XS : List Seg}
theorem ApS.new (hK : ∀ k ∈ ks, KOK C e sz k) : ApS C e sz mv ks 0 (ks.map (·.X)) := by
  refine ⟨by simp, fun m k X h1 h2 => ⟨fun h => absurd h (Nat.not_lt_zero _), fun _ => ?_⟩⟩
  rw [List.getElem?_map, h1] at h2
  injection h2 with h2
  subst h2
  exact (hK k (List.mem_of_getElem? h1)).2.2.1
theorem ApS.at (h : ApS C e sz mv ks i XS) {m : Nat} (hm : m < ks.length) : ∃ k X, ks[m]? = some k ∧ XS[m]? = some X ∧ (m < i → Mk C e sz (mv m) k X) ∧ (i ≤ m → Buf e sz X k.v k.l.length (cel C k.l)) := by
  have h1 : ks[m]? = some ks[m] := List.getElem?_eq_getElem hm
  have h2 : XS[m]? = some (XS[m]'(by rw [h.1]; exact hm)) := List.getElem?_eq_getElem _
  exact ⟨_, _, h1, h2, h.2 m _ _ h1 h2⟩
theorem ApS.step (h : ApS C e sz mv ks i XS) {k : KeptX α} {X : Seg} (hk : ks[i]? = some k) (hX : Mk C e sz (mv i) k X) : ApS C e sz mv ks (i + 1) (XS.set i X) := by
  refine ⟨by rw [List.length_set]; exact h.1, fun m k' X' h1 h2 => ?_⟩
  by_cases hm : m = i
  · subst hm
    rw [hk] at h1
    injection h1 with h1
    subst h1
    have hl := (List.getElem?_eq_some_iff.1 h2).1
    rw [List.length_set] at hl
    rw [List.getElem?_set_self hl] at h2
    injection h2 with h2
    subst h2
    exact ⟨fun _ => hX, fun h => absurd h (by omega)⟩
  · rw [List.getElem?_set_ne (fun h => hm h.symm)] at h2
    obtain ⟨h3, h4⟩ := h.2 m k' X' h1 h2
    exact ⟨fun h => h3 (by omega), fun h => h4 (by omega)⟩
variable {w0 w : World} {R : List Seg} {B XL XW X : Seg}
/-- a book: its two lists' values lv and wv, and one segment behind them -/
def BookV (C : α → List Value) (se e : TypeId) (sz : Nat) (ks : List (KeptX α)) (lv wv : Value) (Y : Seg) : Prop :=
  ks.length ≤ 4000 ∧ ∃ XL XW, Buf se 1 XL lv ks.length (ks.map (·.v)) ∧ Buf se 1 XW wv ks.length (ks.map (·.cv)) ∧ (∀ k ∈ ks, KOK C e sz k) ∧ Y = XL ++ (XW ++ kflat ks)
theorem BookV.new (C : α → List Value) (se e : TypeId) (sz : Nat) : BookV C se e sz [] (.slice none 0 0) (.slice none 0 0) [] :=
  ⟨Nat.zero_le _, [], [], Buf.nil _ _, Buf.nil _ _, (fun _ h => by cases h), rfl⟩
end
section
variable {P : Program} {w : World} {n : Nat} {F : List (Nat × Value)} {o : Oper} {t t' : TypeId} {x y : Operand}
end
theorem bytes_tri : ∀ a b : List UInt8, (Op.bytesLess a b || a == b) = !(Op.bytesLess b a)
  | [], [] => by decide
  | [], _ :: _ => rfl
  | _ :: _, [] => rfl
  | x :: xs, y :: ys => by
    have ih := bytes_tri xs ys
    rcases Nat.lt_trichotomy x.toNat y.toNat with h | h | h
    · have h1 : x < y := h
      have h2 : ¬ y < x := fun h' => Nat.lt_asymm h h'
      have h3 : x ≠ y := fun e => by rw [e] at h; exact Nat.lt_irrefl _ h
      simp [Op.bytesLess, h1, h2, h3, Ne.symm h3]
    · have h3 : x = y := UInt8.toNat.inj h
      subst h3
      have h1 : ¬ x < x := Nat.lt_irrefl _
      simpa [Op.bytesLess, h1] using ih
    · have h1 : y < x := h
      have h2 : ¬ x < y := fun h' => Nat.lt_asymm h h'
      have h3 : x ≠ y := fun e => by rw [e] at h; exact Nat.lt_irrefl _ h
      simp [Op.bytesLess, h1, h2, h3, Ne.symm h3]
theorem strB_leq (a b : List UInt8) : strB .leq a b = strB .geq b a := bytes_tri a b
end Go.Dk
