/- Marks written over the kept lists. Plain lemmas; no program. -/
import Derived.Test.YtppmhlkonemebaaDoorBook0
namespace Go.Dk
open Go Go.RowKit
section
variable {e : TypeId} {sz n c j : Nat} {X : Seg} {A : Option Addr} {W : List Value}
/-- a list of none over the same row -/
theorem Buf.forget (h : Buf e sz X (.slice A n c) n W) : Buf e sz X (.slice A 0 c) 0 [] := by
  refine ⟨by simp, ?_⟩
  rcases h.2 with ⟨h1, h2, h3⟩ | ⟨g, c', B, Z, h1, h2, h3, h4⟩
  · injection h1 with h1 _ h1'
    subst h1 h1'
    exact .inl ⟨rfl, rfl, h3⟩
  · injection h1 with h1 _ h1'
    subst h1 h1'
    refine .inr ⟨g, c, B, W ++ Z, rfl, ⟨Nat.zero_le _, h2.2⟩, ?_, by rw [h4]; simp⟩
    rw [List.length_append, h.1, h3, ← Nat.add_mul]
    congr 1
    omega
theorem Buf.opens (h : Buf e sz X (.slice A j c) j W) (hlt : j < c) : ∃ g B Z, A = some ⟨g, B.length, none⟩ ∧ X = [row g e (B ++ W ++ Z)] ∧ W.length = j * sz ∧ sz ≤ Z.length ∧ ∀ u : List Value, u.length = sz → Buf e sz [row g e (B ++ W ++ (u ++ Z.drop sz))] (.slice A (j + 1) c) (j + 1) (W ++ u) := by
  rcases h.2 with ⟨h1, h2, h3⟩ | ⟨g, c', B, Z, h1, h2, h3, h4⟩
  · injection h1 with h1 _ h1'
    omega
  · injection h1 with h1 _ h1'
    subst h1 h1'
    have hm : (j + 1) * sz ≤ c * sz := Nat.mul_le_mul_right _ hlt
    have e1 : (j + 1) * sz = j * sz + sz := by rw [Nat.add_mul, Nat.one_mul]
    have e2 : (c - j) * sz = c * sz - j * sz := Nat.sub_mul ..
    have e3 : (c - (j + 1)) * sz = c * sz - (j + 1) * sz := Nat.sub_mul ..
    refine ⟨g, B, Z, rfl, h4, h.1, by omega, fun u hu => ⟨?_, .inr ⟨g, c, B, Z.drop sz, rfl, ⟨hlt, h2.2⟩, ?_, by simp⟩⟩⟩
    · rw [List.length_append, h.1, hu]; omega
    · rw [List.length_drop]; omega
theorem set_mid {B Z : List Value} {u : Value} (hW : W.length = j) (hZ : 1 ≤ Z.length) : (B ++ W ++ Z).set (B.length + j) u = B ++ W ++ ([u] ++ Z.drop 1) := by
  cases Z with
  | nil => simp at hZ
  | cons z Z =>
    subst hW
    rw [List.set_append_right _ _ (by rw [List.length_append]; exact Nat.le_refl _), List.length_append, Nat.sub_self]
    rfl
end
section
variable {α : Type}
def mkL (mv : Nat → α) (j : Nat) : List α := (List.range j).map mv
theorem mkL_succ (mv : Nat → α) (j : Nat) : mkL mv (j + 1) = mkL mv j ++ [mv j] := by unfold mkL; rw [List.range_succ, List.map_append]; rfl
theorem mkL_at (mv : Nat → α) {i j : Nat} (h : i < j) : (mkL mv j)[i]? = some (mv i) := by simp [mkL, h]
theorem mkL_one {C : α → List Value} {sz : Nat} {mv : Nat → α} (h : ∀ j, (C (mv j)).length = sz) (j : Nat) : ∀ x ∈ mkL mv j, (C x).length = sz := fun x hx => by
  obtain ⟨i, _, rfl⟩ := List.mem_map.1 hx
  exact h i
theorem cel_mk {C : α → List Value} (mv : Nat → α) (j : Nat) : cel C (mkL mv (j + 1)) = cel C (mkL mv j) ++ C (mv j) := by
  rw [mkL_succ, cel_append, cel_cons, cel_nil, List.append_nil]
/-- a kept list over whose whole capacity marks are written -/
def Mk (C : α → List Value) (e : TypeId) (sz : Nat) (mv : Nat → α) (k : KeptX α) (X : Seg) : Prop := ∃ A c, k.v = .slice A k.l.length c ∧ Buf e sz X (.slice A c c) c (cel C (mkL mv c))
/-- the first i are marked -/
def ApS (C : α → List Value) (e : TypeId) (sz : Nat) (mv : Nat → Nat → α) (ks : List (KeptX α)) (i : Nat) (XS : List Seg) : Prop :=
  XS.length = ks.length ∧ ∀ m k X, ks[m]? = some k → XS[m]? = some X → (m < i → Mk C e sz (mv m) k X) ∧ (i ≤ m → Buf e sz X k.v k.l.length (cel C k.l))
variable {C : α → List Value} {e : TypeId} {sz i : Nat} {mv : Nat → Nat → α} {ks : List (KeptX α)} {XS : List Seg}
theorem ApS.new (hK : ∀ k ∈ ks, KOK C e sz k) : ApS C e sz mv ks 0 (ks.map (·.X)) := by
  refine ⟨by simp, fun m k X h1 h2 => ⟨fun h => absurd h (Nat.not_lt_zero _), fun _ => ?_⟩⟩
  rw [List.getElem?_map, h1] at h2
  injection h2 with h2
  subst h2
  exact (hK k (List.mem_of_getElem? h1)).2.2.1
theorem ApS.at (h : ApS C e sz mv ks i XS) {m : Nat} (hm : m < ks.length) : ∃ k X, ks[m]? = some k ∧ XS[m]? = some X ∧ (m < i → Mk C e sz (mv m) k X) ∧ (i ≤ m → Buf e sz X k.v k.l.length (cel C k.l)) := by
  have h1 : ks[m]? = some ks[m] := List.getElem?_eq_getElem hm
  have h2 : XS[m]? = some (XS[m]'(by rw [h.1]; exact hm)) := List.getElem?_eq_getElem _
  exact ⟨_, _, h1, h2, h.2 m _ _ h1 h2⟩
theorem ApS.step (h : ApS C e sz mv ks i XS) {k : KeptX α} {X : Seg} (hk : ks[i]? = some k) (hX : Mk C e sz (mv i) k X) : ApS C e sz mv ks (i + 1) (XS.set i X) := by
  refine ⟨by rw [List.length_set]; exact h.1, fun m k' X' h1 h2 => ?_⟩
  by_cases hm : m = i
  · subst hm
    rw [hk] at h1
    injection h1 with h1
    subst h1
    have hl := (List.getElem?_eq_some_iff.1 h2).1
    rw [List.length_set] at hl
    rw [List.getElem?_set_self hl] at h2
    injection h2 with h2
    subst h2
    exact ⟨fun _ => hX, fun h => absurd h (by omega)⟩
  · rw [List.getElem?_set_ne (fun h => hm h.symm)] at h2
    obtain ⟨h3, h4⟩ := h.2 m k' X' h1 h2
    exact ⟨fun h => h3 (by omega), fun h => h4 (by omega)⟩
/-- one segment out of many -/
theorem segs_out : ∀ {XS : List Seg} {i : Nat} {X : Seg}, XS[i]? = some X → XS.flatten.Perm (X ++ (XS.eraseIdx i).flatten)
  | [], _, _, h => by cases h
  | Y :: XS, 0, X, h => by
    injection h with h
    subst h
    exact .refl _
  | Y :: XS, i + 1, X, h => by
    have ih := segs_out (XS := XS) (i := i) (X := X) h
    simp only [List.flatten_cons, List.eraseIdx_cons_succ]
    refine (ih.append_left Y).trans ?_
    rw [← List.append_assoc, ← List.append_assoc]
    exact List.perm_append_comm.append_right _
theorem segs_in {XS : List Seg} {i : Nat} {X : Seg} (h : i < XS.length) : (X ++ (XS.eraseIdx i).flatten).Perm (XS.set i X).flatten := by
  have h1 : (XS.set i X)[i]? = some X := List.getElem?_set_self h
  have h2 := segs_out h1
  rw [List.eraseIdx_set_eq] at h2
  exact h2.symm
variable {w0 w : World} {R : List Seg} {B XL XW X : Seg}
theorem kflat_X : ∀ ks : List (KeptX α), (ks.map (·.X)).flatten.Sublist (kflat ks)
  | [] => .slnil
  | k :: ks => by
    have h : kflat (k :: ks) = k.X ++ k.Z ++ kflat ks := rfl
    rw [h, List.map_cons, List.flatten_cons]
    exact List.Sublist.append (List.sublist_append_left _ _) (kflat_X ks)
/-- a book: its two lists' values lv and wv, and one segment behind them -/
def BookV (C : α → List Value) (se e : TypeId) (sz : Nat) (ks : List (KeptX α)) (lv wv : Value) (Y : Seg) : Prop :=
  ks.length ≤ 4000 ∧ ∃ XL XW, Buf se 1 XL lv ks.length (ks.map (·.v)) ∧ Buf se 1 XW wv ks.length (ks.map (·.cv)) ∧ (∀ k ∈ ks, KOK C e sz k) ∧ Y = XL ++ (XW ++ kflat ks)
theorem BookV.new (C : α → List Value) (se e : TypeId) (sz : Nat) : BookV C se e sz [] (.slice none 0 0) (.slice none 0 0) [] :=
  ⟨Nat.zero_le _, [], [], Buf.nil _ _, Buf.nil _ _, (fun _ h => by cases h), rfl⟩
theorem Hp.bookX (h : Hp w0 (B :: (XL ++ (XW ++ kflat ks)) :: R) w) : Hp w0 (B :: XL :: (ks.map (·.X)).flatten :: R) w := Hl.sub h (by
  simp only [List.flatten_cons, List.append_assoc]
  refine List.Sublist.append_left (List.Sublist.append_left ?_ _) _
  exact ((kflat_X ks).append (.refl _)).trans (List.sublist_append_right _ _))
theorem Hp.outX (h : Hp w0 (B :: XL :: XS.flatten :: R) w) (hX : XS[i]? = some X) : Hp w0 (B :: XL :: X :: (XS.eraseIdx i).flatten :: R) w := Hl.perm h (by
  simp only [List.flatten_cons]
  refine List.Perm.append_left _ (List.Perm.append_left _ ?_)
  rw [← List.append_assoc]
  exact (segs_out hX).append_right _)
theorem Hp.inX (h : Hp w0 (B :: XL :: X :: (XS.eraseIdx i).flatten :: R) w) (hi : i < XS.length) : Hp w0 (B :: XL :: (XS.set i X).flatten :: R) w := Hl.perm h (by
  simp only [List.flatten_cons]
  refine List.Perm.append_left _ (List.Perm.append_left _ ?_)
  rw [← List.append_assoc]
  exact (segs_in hi).append_right _)
end
section
variable {P : Program} {w : World} {n : Nat} {F : List (Nat × Value)} {o : Oper} {t t' : TypeId} {x y : Operand}
/-- the low byte of a number moved right -/
theorem shr_nat (i q : Nat) (c : Int) (hc : c.toNat = q) (h : q ≤ 64) : ((i : Nat) : Int).fdiv (2 ^ min c.toNat IntKind.i64.bits) = ((i / 2 ^ q : Nat) : Int) := by
  have h1 : min c.toNat IntKind.i64.bits = q := by rw [hc]; exact Nat.min_eq_left h
  rw [h1, Int.fdiv_eq_ediv_of_nonneg _ (Int.pow_nonneg (by decide)), Int.natCast_ediv, Int.natCast_pow]
  rfl
theorem b8_nat (m : Nat) : IntKind.u8.wrap ((m : Nat) : Int) = ((UInt8.ofNat m).toNat : Int) := by
  rw [IntKind.wrap_u8, UInt8.toNat_ofNat']
  omega
end
end Go.Dk
