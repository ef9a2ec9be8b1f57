/- The radix tree of items: what it holds, and its digests. No program is walked here. -/
import Derived.Test.YtpomngkcfbnjoaaDoorSpR
namespace Go.Proofs.YtpomngkcfbnjoaaDoor
open Go Go.RowKit Go.Dk

/-! ### keys: their bits, their order -/
def agree (a b : List UInt8) (n : Nat) : Prop := ∀ i, i < n → keyBit a i = keyBit b i
theorem agree_refl (a : List UInt8) (n : Nat) : agree a a n := fun _ _ => rfl
theorem agree.symm {a b : List UInt8} {n : Nat} (h : agree a b n) : agree b a n := fun i hi => (h i hi).symm
theorem agree.trans {a b c : List UInt8} {n : Nat} (h : agree a b n) (h2 : agree b c n) : agree a c n := fun i hi => (h i hi).trans (h2 i hi)
theorem agree.le {a b : List UInt8} {n m : Nat} (h : agree a b n) (hm : m ≤ n) : agree a b m := fun i hi => h i (by omega)
theorem agree.succ {a b : List UInt8} {n : Nat} (h : agree a b n) (hn : keyBit a n = keyBit b n) : agree a b (n + 1) := fun i hi => by
  rcases Nat.lt_or_ge i n with h2 | h2
  · exact h i h2
  · obtain rfl : i = n := by omega
    exact hn
theorem keyBit_lt (k : List UInt8) (i : Nat) : keyBit k i < 2 := Nat.mod_lt _ (by decide)
/-- a key as a number -/
def nb : List UInt8 → Nat
  | [] => 0
  | b :: l => b.toNat * 2 ^ (8 * l.length) + nb l
theorem nb_lt : ∀ l : List UInt8, nb l < 2 ^ (8 * l.length)
  | [] => by decide
  | b :: l => by
    have h1 := nb_lt l
    have h2 := b.toNat_lt
    have h3 : 2 ^ (8 * (b :: l).length) = 2 ^ (8 * l.length) * 256 := by
      rw [List.length_cons, Nat.mul_add, Nat.pow_add]
    show b.toNat * 2 ^ (8 * l.length) + nb l < _
    rw [h3]
    have h4 : b.toNat * 2 ^ (8 * l.length) ≤ 255 * 2 ^ (8 * l.length) := Nat.mul_le_mul_right _ (by omega)
    omega
theorem keyBit_nb : ∀ (k : List UInt8) (i : Nat), i < 8 * k.length → keyBit k i = nb k / 2 ^ (8 * k.length - 1 - i) % 2
  | [], i, h => absurd h (by simp)
  | b :: l, i, h => by
    rw [List.length_cons] at h
    have hn := nb_lt l
    rcases Nat.lt_or_ge i 8 with h8 | h8
    · have e1 : i / 8 = 0 := by omega
      have e2 : i % 8 = i := by omega
      have e3 : 8 * (l.length + 1) - 1 - i = 8 * l.length + (7 - i) := by omega
      unfold keyBit
      rw [e1, e2, List.length_cons, e3, Nat.pow_add, ← Nat.div_div_eq_div_mul]
      show b.toNat / _ % 2 = (b.toNat * 2 ^ (8 * l.length) + nb l) / 2 ^ (8 * l.length) / _ % 2
      rw [Nat.add_comm, Nat.add_mul_div_right _ _ (Nat.two_pow_pos _), Nat.div_eq_of_lt hn, Nat.zero_add]
    · have e1 : i / 8 = (i - 8) / 8 + 1 := by omega
      have e2 : i % 8 = (i - 8) % 8 := by omega
      have e3 : 8 * (l.length + 1) - 1 - i = 8 * l.length - 1 - (i - 8) := by omega
      have e4 : keyBit (b :: l) i = keyBit l (i - 8) := by
        unfold keyBit
        rw [e1, e2]
        rfl
      rw [e4, keyBit_nb l (i - 8) (by omega), List.length_cons, e3]
      show _ = (b.toNat * 2 ^ (8 * l.length) + nb l) / _ % 2
      obtain ⟨c, hc⟩ : ∃ c, 8 * l.length = (8 * l.length - 1 - (i - 8)) + 1 + c := ⟨i - 8, by omega⟩
      have e5 : b.toNat * 2 ^ (8 * l.length) = (b.toNat * 2 ^ c * 2) * 2 ^ (8 * l.length - 1 - (i - 8)) := by
        conv => lhs; rw [hc]
        rw [Nat.pow_add, Nat.pow_add]
        generalize 2 ^ (8 * l.length - 1 - (i - 8)) = X
        generalize 2 ^ c = Y
        rw [Nat.pow_one, Nat.mul_comm X 2, Nat.mul_assoc 2 X Y, Nat.mul_comm X Y, ← Nat.mul_assoc 2 Y X, Nat.mul_comm 2 Y, ← Nat.mul_assoc b.toNat (Y * 2) X, Nat.mul_assoc b.toNat Y 2]
      rw [e5, Nat.add_comm, Nat.add_mul_div_right _ _ (Nat.two_pow_pos _), Nat.add_mul_mod_self_right]
theorem nb_step {k : List UInt8} (hk : k.length = 32) {i : Nat} (hi : i < 256) : nb k / 2 ^ (255 - i) = 2 * (nb k / 2 ^ (256 - i)) + keyBit k i := by
  have h1 := keyBit_nb k i (by rw [hk]; exact hi)
  rw [hk] at h1
  have h2 : 256 - i = (255 - i) + 1 := by omega
  rw [h2, Nat.pow_succ, ← Nat.div_div_eq_div_mul]
  have h3 : 8 * 32 - 1 - i = 255 - i := rfl
  rw [h3] at h1
  omega
theorem agree_nb {a b : List UInt8} (ha : a.length = 32) (hb : b.length = 32) : ∀ n, n ≤ 256 → agree a b n → nb a / 2 ^ (256 - n) = nb b / 2 ^ (256 - n)
  | 0, _, _ => by
    have h1 := nb_lt a
    have h2 := nb_lt b
    rw [ha] at h1; rw [hb] at h2
    rw [Nat.div_eq_of_lt h1, Nat.div_eq_of_lt h2]
  | n + 1, hn, h => by
    have h1 := agree_nb ha hb n (by omega) (h.le (by omega))
    have h2 : 256 - (n + 1) = 255 - n := by omega
    rw [h2, nb_step ha (by omega), nb_step hb (by omega), h1, h n (by omega)]
theorem nb_lt_of {a b : List UInt8} (ha : a.length = 32) (hb : b.length = 32) {n : Nat} (hn : n < 256) (h : agree a b n) (h0 : keyBit a n = 0) (h1 : keyBit b n = 1) : nb a < nb b := by
  have e := agree_nb ha hb n (by omega) h
  have ea := nb_step ha hn
  have eb := nb_step hb hn
  rw [h0, e] at ea
  rw [h1] at eb
  have h2 : nb a / 2 ^ (255 - n) < nb b / 2 ^ (255 - n) := by omega
  rcases Nat.lt_or_ge (nb a) (nb b) with h3 | h3
  · exact h3
  · exact absurd (Nat.div_le_div_right (c := 2 ^ (255 - n)) h3) (by omega)
theorem nb_inj : ∀ {a b : List UInt8}, a.length = b.length → nb a = nb b → a = b
  | [], [], _, _ => rfl
  | [], _ :: _, h, _ => by cases h
  | _ :: _, [], h, _ => by cases h
  | x :: a, y :: b, h, e => by
    have hl : a.length = b.length := by simpa using h
    have h1 := nb_lt a
    have h2 := nb_lt b
    have e' : x.toNat * 2 ^ (8 * a.length) + nb a = y.toNat * 2 ^ (8 * b.length) + nb b := e
    rw [← hl] at e' h2
    have e3 : x.toNat = y.toNat := by
      have d1 : (x.toNat * 2 ^ (8 * a.length) + nb a) / 2 ^ (8 * a.length) = x.toNat := by rw [Nat.add_comm, Nat.add_mul_div_right _ _ (Nat.two_pow_pos _), Nat.div_eq_of_lt h1, Nat.zero_add]
      have d2 : (y.toNat * 2 ^ (8 * a.length) + nb b) / 2 ^ (8 * a.length) = y.toNat := by rw [Nat.add_comm, Nat.add_mul_div_right _ _ (Nat.two_pow_pos _), Nat.div_eq_of_lt h2, Nat.zero_add]
      rw [← d1, e', d2]
    rw [e3] at e'
    rw [UInt8.toNat_inj.1 e3, nb_inj hl (by omega)]
theorem agree_all {a b : List UInt8} (ha : a.length = 32) (hb : b.length = 32) (h : agree a b 256) : a = b := by
  have h1 := agree_nb ha hb 256 (Nat.le_refl _) h
  rw [Nat.sub_self, Nat.pow_zero, Nat.div_one, Nat.div_one] at h1
  exact nb_inj (ha.trans hb.symm) h1
/-- the first bit in which two keys part -/
def partsN (a b : List UInt8) : Nat := (List.range 256).findIdx fun i => decide (keyBit a i ≠ keyBit b i)
theorem partsN_le (a b : List UInt8) : partsN a b ≤ 256 := by
  have h := List.findIdx_le_length (xs := List.range 256) (p := fun i => decide (keyBit a i ≠ keyBit b i))
  rw [List.length_range] at h
  exact h
theorem partsN_agree (a b : List UInt8) : agree a b (partsN a b) := fun i hi => by
  have h := List.not_of_lt_findIdx (xs := List.range 256) (p := fun i => decide (keyBit a i ≠ keyBit b i)) hi
  simp only [List.getElem_range] at h
  simpa using h
theorem partsN_ne {a b : List UInt8} (h : partsN a b < 256) : keyBit a (partsN a b) ≠ keyBit b (partsN a b) := by
  have h1 := List.findIdx_getElem (xs := List.range 256) (p := fun i => decide (keyBit a i ≠ keyBit b i)) (w := by rw [List.length_range]; exact h)
  simp only [List.getElem_range] at h1
  exact of_decide_eq_true h1
theorem partsN_eq {a b : List UInt8} {p : Nat} (hp : p ≤ 256) (h : agree a b p) (hn : p < 256 → keyBit a p ≠ keyBit b p) : partsN a b = p := by
  have h1 := partsN_le a b
  rcases Nat.lt_trichotomy (partsN a b) p with h2 | h2 | h2
  · exact absurd (h _ h2) (partsN_ne (by omega))
  · exact h2
  · exact absurd (partsN_agree a b p h2) (hn (by omega))
theorem partsN_ge {a b : List UInt8} {p : Nat} (hp : p ≤ 256) (h : agree a b p) : p ≤ partsN a b := by
  rcases Nat.lt_or_ge (partsN a b) p with h2 | h2
  · exact absurd (h _ h2) (partsN_ne (by omega))
  · exact h2
theorem partsN_same {a b : List UInt8} (ha : a.length = 32) (hb : b.length = 32) (h : ¬ partsN a b < 256) : a = b := by
  have h1 := partsN_le a b
  have h2 := partsN_agree a b
  rw [show partsN a b = 256 by omega] at h2
  exact agree_all ha hb h2

/-! ### the tree -/
inductive Rx where
  | leaf (i : Itm)
  | fork (b : Nat) (l r : Rx)
def Rx.items : Rx → List Itm
  | .leaf i => [i]
  | .fork _ l r => l.items ++ r.items
def Rx.key : Rx → List UInt8
  | .leaf i => i.k
  | .fork _ l _ => l.key
def Rx.bit : Rx → Nat
  | .leaf _ => 256
  | .fork b _ _ => b
def Rx.size : Rx → Nat
  | .leaf _ => 1
  | .fork _ l r => l.size + r.size
theorem Rx.size_eq : ∀ t : Rx, t.size = t.items.length
  | .leaf _ => rfl
  | .fork _ l r => by show l.size + r.size = (l.items ++ r.items).length; rw [List.length_append, Rx.size_eq l, Rx.size_eq r]
theorem Rx.size_pos : ∀ t : Rx, 0 < t.size
  | .leaf _ => Nat.one_pos
  | .fork _ l r => Nat.lt_of_lt_of_le (Rx.size_pos l) (Nat.le_add_right _ _)
theorem Rx.key_mem : ∀ t : Rx, ∃ i ∈ t.items, i.k = t.key
  | .leaf i => ⟨i, List.mem_singleton.2 rfl, rfl⟩
  | .fork _ l r => by obtain ⟨i, h1, h2⟩ := Rx.key_mem l; exact ⟨i, List.mem_append_left _ h1, h2⟩
def Rx.Good : Rx → Prop
  | .leaf i => i.OK
  | .fork b l r => l.Good ∧ r.Good ∧ b < l.bit ∧ b < r.bit ∧ (∀ i ∈ l.items, agree i.k l.key b ∧ keyBit i.k b = 0) ∧ (∀ i ∈ r.items, agree i.k l.key b ∧ keyBit i.k b = 1)
theorem Rx.Good.ok : ∀ {t : Rx}, t.Good → ∀ i ∈ t.items, i.OK
  | .leaf i, h, j, hj => by rw [List.mem_singleton.1 hj]; exact h
  | .fork b l r, ⟨h1, h2, _⟩, j, hj => by
    rcases List.mem_append.1 hj with h | h
    · exact Rx.Good.ok h1 j h
    · exact Rx.Good.ok h2 j h
theorem Rx.Good.key {t : Rx} (h : t.Good) : t.key.length = 32 := by
  obtain ⟨i, h1, h2⟩ := t.key_mem
  rw [← h2]; exact (h.ok i h1).k
theorem Rx.bit_le {t : Rx} (h : t.Good) : t.bit ≤ 256 := by
  cases t with
  | leaf i => exact Nat.le_refl _
  | fork b l r =>
    obtain ⟨h1, _, h3, _⟩ := h
    have := Rx.bit_le h1
    show b ≤ 256
    omega
theorem Rx.Good.agree : ∀ {t : Rx}, t.Good → ∀ i ∈ t.items, agree i.k t.key t.bit
  | .leaf i, h, j, hj => by rw [List.mem_singleton.1 hj]; exact agree_refl _ _
  | .fork b l r, ⟨h1, h2, h3, h4, h5, h6⟩, j, hj => by
    rcases List.mem_append.1 hj with h | h
    · exact (h5 j h).1
    · exact (h6 j h).1
theorem Rx.Good.rises : ∀ {t : Rx}, t.Good → t.items.Pairwise fun a b => nb a.k < nb b.k
  | .leaf i, h => List.pairwise_singleton _ _
  | .fork b l r, ⟨h1, h2, h3, h4, h5, h6⟩ => by
    refine List.pairwise_append.2 ⟨Rx.Good.rises h1, Rx.Good.rises h2, fun x hx y hy => ?_⟩
    have hb := Rx.bit_le h1
    exact nb_lt_of (h1.ok x hx).k (h2.ok y hy).k (by omega) ((h5 x hx).1.trans (h6 y hy).1.symm) (h5 x hx).2 (h6 y hy).2

/-! ### one key more -/
/-- a rising row with one item more -/
def insL (i : Itm) : List Itm → List Itm
  | [] => [i]
  | j :: l => if nb j.k < nb i.k then j :: insL i l else if nb j.k = nb i.k then i :: l else i :: j :: l
theorem insL_left {i : Itm} : ∀ {l r : List Itm}, (∀ j ∈ l, nb j.k < nb i.k) → insL i (l ++ r) = l ++ insL i r
  | [], r, _ => rfl
  | j :: l, r, h => by
    show (if nb j.k < nb i.k then j :: insL i (l ++ r) else _) = _
    rw [if_pos (h j (List.mem_cons_self ..)), insL_left fun x hx => h x (List.mem_cons_of_mem _ hx)]; rfl
theorem insL_right {i : Itm} : ∀ {l r : List Itm}, (∀ j ∈ r, nb i.k < nb j.k) → insL i (l ++ r) = insL i l ++ r
  | [], [], _ => rfl
  | [], j :: r, h => by
    have h1 := h j (List.mem_cons_self ..)
    show (if nb j.k < nb i.k then _ else if nb j.k = nb i.k then _ else i :: j :: r) = _
    rw [if_neg (by omega), if_neg (by omega)]; rfl
  | j :: l, r, h => by
    show (if nb j.k < nb i.k then j :: insL i (l ++ r) else if nb j.k = nb i.k then i :: (l ++ r) else i :: j :: (l ++ r)) = (if nb j.k < nb i.k then j :: insL i l else if nb j.k = nb i.k then i :: l else i :: j :: l) ++ r
    rw [insL_right h]
    split
    · rfl
    · split <;> rfl
theorem insL_mem {i x : Itm} : ∀ {l : List Itm}, x ∈ insL i l → x = i ∨ x ∈ l
  | [], h => .inl (List.mem_singleton.1 h)
  | j :: l, h => by
    unfold insL at h
    split at h
    · rcases List.mem_cons.1 h with rfl | h
      · exact .inr (List.mem_cons_self ..)
      · rcases insL_mem h with h | h
        · exact .inl h
        · exact .inr (List.mem_cons_of_mem _ h)
    · split at h
      · rcases List.mem_cons.1 h with h | h
        · exact .inl h
        · exact .inr (List.mem_cons_of_mem _ h)
      · rcases List.mem_cons.1 h with h | h
        · exact .inl h
        · exact .inr h
def Rx.join (a c : Rx) (p : Nat) : Rx := if keyBit a.key p = 1 then .fork p c a else .fork p a c
def Rx.ins (i : Itm) : Rx → Rx
  | .leaf j => if partsN i.k j.k < 256 then (Rx.leaf j).join (.leaf i) (partsN i.k j.k) else .leaf i
  | .fork b l r => if partsN i.k l.key < b then (Rx.fork b l r).join (.leaf i) (partsN i.k l.key) else if keyBit i.k b = 0 then .fork b (l.ins i) r else .fork b l (r.ins i)
theorem Rx.ins_mem {i x : Itm} : ∀ {t : Rx}, x ∈ (t.ins i).items → x = i ∨ x ∈ t.items
  | .leaf j, h => by
    unfold Rx.ins at h
    split at h
    · unfold Rx.join at h
      split at h
      · rcases List.mem_append.1 h with h | h
        · exact .inl (List.mem_singleton.1 h)
        · exact .inr h
      · rcases List.mem_append.1 h with h | h
        · exact .inr h
        · exact .inl (List.mem_singleton.1 h)
    · exact .inl (List.mem_singleton.1 h)
  | .fork b l r, h => by
    unfold Rx.ins at h
    split at h
    · unfold Rx.join at h
      split at h
      · rcases List.mem_append.1 h with h | h
        · exact .inl (List.mem_singleton.1 h)
        · exact .inr h
      · rcases List.mem_append.1 h with h | h
        · exact .inr h
        · exact .inl (List.mem_singleton.1 h)
    · split at h
      · rcases List.mem_append.1 h with h | h
        · rcases Rx.ins_mem h with h | h
          · exact .inl h
          · exact .inr (List.mem_append_left _ h)
        · exact .inr (List.mem_append_right _ h)
      · rcases List.mem_append.1 h with h | h
        · exact .inr (List.mem_append_left _ h)
        · rcases Rx.ins_mem h with h | h
          · exact .inl h
          · exact .inr (List.mem_append_right _ h)
/-- two parts that part at a bit -/
theorem Rx.join_good {a : Rx} {i : Itm} (ha : a.Good) (hi : i.OK) {p : Nat} (hp : partsN i.k a.key = p) (hb : p < a.bit) : (a.join (.leaf i) p).Good ∧ (a.join (.leaf i) p).items = insL i a.items ∧ (a.join (.leaf i) p).bit = p := by
  have hab := Rx.bit_le ha
  have h1 : agree i.k a.key p := by rw [← hp]; exact partsN_agree _ _
  have h2 : keyBit i.k p ≠ keyBit a.key p := by rw [← hp]; exact partsN_ne (by omega)
  have h3 := keyBit_lt i.k p
  have h4 := keyBit_lt a.key p
  have h5 : ∀ x ∈ a.items, agree x.k a.key p := fun x hx => (ha.agree x hx).le (by omega)
  have h6 : ∀ x ∈ a.items, keyBit x.k p = keyBit a.key p := fun x hx => ha.agree x hx p hb
  unfold Rx.join
  split
  · rename_i h
    have h0 : keyBit i.k p = 0 := by omega
    refine ⟨⟨hi, ha, by show p < 256; omega, hb, fun x hx => ?_, fun x hx => ?_⟩, ?_, rfl⟩
    · rw [List.mem_singleton.1 hx]; exact ⟨agree_refl _ _, h0⟩
    · exact ⟨(h5 x hx).trans h1.symm, by rw [h6 x hx, h]⟩
    · show [i] ++ a.items = insL i ([] ++ a.items)
      rw [insL_right fun x hx => nb_lt_of hi.k (ha.ok x hx).k (by omega) (h1.trans (h5 x hx).symm) h0 (by rw [h6 x hx, h])]
      rfl
  · rename_i h
    have h0 : keyBit i.k p = 1 := by omega
    refine ⟨⟨ha, hi, hb, by show p < 256; omega, fun x hx => ?_, fun x hx => ?_⟩, ?_, rfl⟩
    · exact ⟨h5 x hx, by rw [h6 x hx]; omega⟩
    · rw [List.mem_singleton.1 hx]; exact ⟨h1, h0⟩
    · show a.items ++ [i] = insL i a.items
      have e := insL_left (i := i) (l := a.items) (r := []) fun x hx => nb_lt_of (ha.ok x hx).k hi.k (by omega) ((h5 x hx).trans h1.symm) (by rw [h6 x hx]; omega) h0
      rw [List.append_nil] at e
      rw [e]; rfl
theorem Rx.ins_good {i : Itm} (hi : i.OK) : ∀ {t : Rx}, t.Good → (t.ins i).Good ∧ (t.ins i).items = insL i t.items ∧ (t.ins i).bit = min t.bit (partsN i.k t.key)
  | .leaf j, h => by
    have hle := partsN_le i.k j.k
    unfold Rx.ins
    split
    · rename_i hp
      obtain ⟨h1, h2, h3⟩ := Rx.join_good (a := .leaf j) h hi rfl hp
      refine ⟨h1, h2, h3.trans ?_⟩
      show _ = min 256 (partsN i.k j.k)
      rw [Nat.min_eq_right (by omega)]; rfl
    · rename_i hp
      have e : i.k = j.k := partsN_same hi.k h.k hp
      refine ⟨hi, ?_, ?_⟩
      · show [i] = (if nb j.k < nb i.k then _ else if nb j.k = nb i.k then [i] else _)
        rw [e, if_neg (Nat.lt_irrefl _), if_pos rfl]
      · show 256 = min 256 (partsN i.k j.k)
        omega
  | .fork b l r, hg => by
    have hg0 : (Rx.fork b l r).Good := hg
    obtain ⟨h1, h2, h3, h4, h5, h6⟩ := hg
    have hlb := Rx.bit_le h1
    have hrb := Rx.bit_le h2
    unfold Rx.ins
    split
    · rename_i hp
      obtain ⟨g1, g2, g3⟩ := Rx.join_good (a := .fork b l r) hg0 hi rfl hp
      refine ⟨g1, g2, g3.trans ?_⟩
      show partsN i.k l.key = min b (partsN i.k l.key)
      omega
    · rename_i hp
      have ha : agree i.k l.key b := (partsN_agree i.k l.key).le (by omega)
      have hm : min b (partsN i.k l.key) = b := by omega
      split
      · rename_i h0
        obtain ⟨g1, g2, g3⟩ := Rx.ins_good hi h1
        have gk : ∀ x ∈ (l.ins i).items, agree x.k l.key b ∧ keyBit x.k b = 0 := fun x hx => by
          rcases Rx.ins_mem hx with rfl | hx
          · exact ⟨ha, h0⟩
          · exact h5 x hx
        obtain ⟨kx, hkx, hke⟩ := (l.ins i).key_mem
        have hkk : agree (l.ins i).key l.key b := by rw [← hke]; exact (gk kx hkx).1
        obtain ⟨lx, hlx, hle⟩ := l.key_mem
        have hl0 : keyBit l.key b = 0 := by rw [← hle]; exact (h5 lx hlx).2
        refine ⟨⟨g1, h2, ?_, h4, fun x hx => ⟨(gk x hx).1.trans hkk.symm, (gk x hx).2⟩, fun x hx => ⟨(h6 x hx).1.trans hkk.symm, (h6 x hx).2⟩⟩, ?_, hm.symm⟩
        · rw [g3]
          have := partsN_ge (a := i.k) (b := l.key) (p := b + 1) (by omega) (ha.succ (by rw [h0, hl0]))
          omega
        · show (l.ins i).items ++ r.items = insL i (l.items ++ r.items)
          rw [g2, insL_right fun x hx => nb_lt_of hi.k (h2.ok x hx).k (by omega) (ha.trans (h6 x hx).1.symm) h0 (h6 x hx).2]
      · rename_i h0
        have h0' : keyBit i.k b = 1 := by have := keyBit_lt i.k b; omega
        obtain ⟨g1, g2, g3⟩ := Rx.ins_good hi h2
        obtain ⟨rx, hrx, hre⟩ := r.key_mem
        have hrk : agree r.key l.key b := by rw [← hre]; exact (h6 rx hrx).1
        have hr1 : keyBit r.key b = 1 := by rw [← hre]; exact (h6 rx hrx).2
        refine ⟨⟨h1, g1, h3, ?_, h5, fun x hx => ?_⟩, ?_, hm.symm⟩
        · rw [g3]
          have := partsN_ge (a := i.k) (b := r.key) (p := b + 1) (by omega) ((ha.trans hrk.symm).succ (by rw [h0', hr1]))
          omega
        · rcases Rx.ins_mem hx with rfl | hx
          · exact ⟨ha, h0'⟩
          · exact h6 x hx
        · show l.items ++ (r.ins i).items = insL i (l.items ++ r.items)
          rw [g2, insL_left fun x hx => nb_lt_of (h1.ok x hx).k hi.k (by omega) ((h5 x hx).1.trans ha.symm) (h5 x hx).2 h0']

/-! ### a key sought -/
def Rx.find (k : List UInt8) : Rx → Option Itm
  | .leaf i => if i.k = k then some i else none
  | .fork b l r => if keyBit k b = 0 then l.find k else r.find k
theorem Rx.find_eq {k : List UInt8} : ∀ {t : Rx}, t.Good → t.find k = t.items.find? fun i => decide (i.k = k)
  | .leaf i, _ => by
    unfold Rx.find
    show _ = List.find? _ [i]
    by_cases h : i.k = k
    · rw [if_pos h, List.find?_cons_of_pos (by exact decide_eq_true h)]
    · rw [if_neg h, List.find?_cons_of_neg (by simpa using h)]; rfl
  | .fork b l r, ⟨h1, h2, h3, h4, h5, h6⟩ => by
    unfold Rx.find
    show _ = List.find? _ (l.items ++ r.items)
    rw [List.find?_append]
    split
    · rename_i h0
      rw [Rx.find_eq h1, show r.items.find? (fun i => decide (i.k = k)) = none from List.find?_eq_none.2 (fun x hx he => by
        have h7 := (h6 x hx).2
        rw [of_decide_eq_true he] at h7; omega), Option.or_none]
    · rename_i h0
      rw [Rx.find_eq h2, show l.items.find? (fun i => decide (i.k = k)) = none from List.find?_eq_none.2 (fun x hx he => by
        have h7 := (h5 x hx).2
        rw [of_decide_eq_true he] at h7; omega), Option.none_or]

/-! ### the digests -/
def Rx.own (width : Int) : Rx → List UInt8
  | .leaf i => entryD width i
  | .fork b l r => branchL width (liftD width l.key (l.own width) (256 - l.bit) (l.bit - b - 1)) (liftD width r.key (r.own width) (256 - r.bit) (r.bit - b - 1))
/-- carried up to the height H -/
def Rx.lift (width : Int) (t : Rx) (H : Nat) : List UInt8 := liftD width t.key (t.own width) (256 - t.bit) (H - (256 - t.bit))
theorem Rx.own_length (width : Int) : ∀ t : Rx, (t.own width).length = 32
  | .leaf i => entryD_length _ _
  | .fork b l r => branchL_length ..
theorem Rx.lift_length (width : Int) (t : Rx) (H : Nat) : (t.lift width H).length = 32 := liftD_length (t.own_length width) _ _
theorem Rx.own_fork {width : Int} {b : Nat} {l r : Rx} (hg : (Rx.fork b l r).Good) : (Rx.fork b l r).own width = branchL width (l.lift width (255 - b)) (r.lift width (255 - b)) := by
  obtain ⟨h1, h2, h3, h4, _⟩ := hg
  have := Rx.bit_le h1
  have := Rx.bit_le h2
  unfold Rx.lift
  rw [show 255 - b - (256 - l.bit) = l.bit - b - 1 by omega, show 255 - b - (256 - r.bit) = r.bit - b - 1 by omega]
  rfl
theorem tw_all {p : Itm → Bool} {l : List Itm} (h : ∀ i ∈ l, p i = true) : l.takeWhile p = l ∧ l.dropWhile p = [] := by
  induction l with
  | nil => exact ⟨rfl, rfl⟩
  | cons i l ih =>
    have h1 := h i (List.mem_cons_self ..)
    obtain ⟨e1, e2⟩ := ih fun x hx => h x (List.mem_cons_of_mem _ hx)
    rw [List.takeWhile_cons_of_pos h1, List.dropWhile_cons_of_pos h1, e1, e2]; exact ⟨rfl, rfl⟩
theorem tw_none {p : Itm → Bool} {l : List Itm} (h : ∀ i ∈ l, p i = false) : l.takeWhile p = [] ∧ l.dropWhile p = l := by
  cases l with
  | nil => exact ⟨rfl, rfl⟩
  | cons i l =>
    have h1 : ¬ p i = true := by rw [h i (List.mem_cons_self ..)]; exact Bool.false_ne_true
    rw [List.takeWhile_cons_of_neg h1, List.dropWhile_cons_of_neg h1]; exact ⟨rfl, rfl⟩
theorem tw_two {p : Itm → Bool} {l r : List Itm} (h : ∀ i ∈ l, p i = true) (h2 : ∀ i ∈ r, p i = false) : (l ++ r).takeWhile p = l ∧ (l ++ r).dropWhile p = r := by
  induction l with
  | nil => exact tw_none h2
  | cons i l ih =>
    have h1 := h i (List.mem_cons_self ..)
    obtain ⟨e1, e2⟩ := ih fun x hx => h x (List.mem_cons_of_mem _ hx)
    rw [List.cons_append, List.takeWhile_cons_of_pos h1, List.dropWhile_cons_of_pos h1, e1, e2]; exact ⟨rfl, rfl⟩
theorem subE_cons {width : Int} {h : Nat} {l : List Itm} (hl : l ≠ []) : subE width (h + 1) l = branchL width (subE width h (l.takeWhile (zeroBit (255 - h)))) (subE width h (l.dropWhile (zeroBit (255 - h)))) := by
  cases l with
  | nil => exact absurd rfl hl
  | cons i l => exact subE_succ width h i l
/-- items of one beginning, carried up through empty rows -/
theorem lift_subE {width : Int} {k : List UInt8} {l : List Itm} (hl : l ≠ []) (h0 : Nat) : ∀ m, (∀ i ∈ l, ∀ h, h0 ≤ h → h < h0 + m → keyBit i.k (255 - h) = keyBit k (255 - h)) → liftD width k (subE width h0 l) h0 m = subE width (h0 + m) l
  | 0, _ => rfl
  | m + 1, ha => by
    show sideD width k (liftD width k (subE width h0 l) h0 m) (emptyL width (h0 + m)) (h0 + m) = subE width (h0 + m + 1) l
    rw [lift_subE hl h0 m (fun i hi h h1 h2 => ha i hi h h1 (by omega)), subE_cons hl]
    unfold sideD
    have hb := keyBit_lt k (255 - (h0 + m))
    split
    · rename_i hz
      obtain ⟨e1, e2⟩ := tw_all (p := zeroBit (255 - (h0 + m))) (l := l) fun i hi => decide_eq_true (by rw [ha i hi (h0 + m) (by omega) (by omega)]; exact hz)
      rw [e1, e2, subE_nil]
    · rename_i hz
      obtain ⟨e1, e2⟩ := tw_none (p := zeroBit (255 - (h0 + m))) (l := l) fun i hi => decide_eq_false (by rw [ha i hi (h0 + m) (by omega) (by omega)]; exact hz)
      rw [e1, e2, subE_nil]
theorem Rx.items_ne (t : Rx) : t.items ≠ [] := fun h => by
  have := t.size_pos
  rw [t.size_eq, h] at this
  exact absurd this (Nat.lt_irrefl _)
theorem Rx.lift_of {width : Int} {t : Rx} (hg : t.Good) (ho : t.own width = subE width (256 - t.bit) t.items) {H : Nat} (h1 : 256 - t.bit ≤ H) (h2 : H ≤ 256) : t.lift width H = subE width H t.items := by
  have hb := Rx.bit_le hg
  unfold Rx.lift
  rw [ho, lift_subE t.items_ne, show 256 - t.bit + (H - (256 - t.bit)) = H by omega]
  intro i hi h h3 h4
  exact hg.agree i hi _ (by omega)
theorem Rx.own_sub {width : Int} : ∀ {t : Rx}, t.Good → t.own width = subE width (256 - t.bit) t.items
  | .leaf i, _ => by
    show entryD width i = subE width 0 [i]
    rw [subE_zero]
  | .fork b l r, hg => by
    rw [Rx.own_fork hg]
    obtain ⟨h1, h2, h3, h4, h5, h6⟩ := hg
    have hlb := Rx.bit_le h1
    have hrb := Rx.bit_le h2
    rw [Rx.lift_of h1 (Rx.own_sub h1) (by omega) (by omega), Rx.lift_of h2 (Rx.own_sub h2) (by omega) (by omega)]
    show _ = subE width (256 - b) (l.items ++ r.items)
    rw [show 256 - b = 255 - b + 1 by omega, subE_cons (fun h => l.items_ne (List.append_eq_nil_iff.1 h).1), show 255 - (255 - b) = b by omega]
    obtain ⟨e1, e2⟩ := tw_two (p := zeroBit b) (l := l.items) (r := r.items) (fun i hi => decide_eq_true (h5 i hi).2) (fun i hi => decide_eq_false (by rw [(h6 i hi).2]; decide))
    rw [e1, e2]
theorem Rx.lift_sub {width : Int} {t : Rx} (hg : t.Good) {H : Nat} (h1 : 256 - t.bit ≤ H) (h2 : H ≤ 256) : t.lift width H = subE width H t.items := Rx.lift_of hg (Rx.own_sub hg) h1 h2
end Go.Proofs.YtpomngkcfbnjoaaDoor
