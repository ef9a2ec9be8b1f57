/- The reference's SHA-256: a ring of eight numbers, a ring of sixteen words; that they hold what the plain text has. No program. -/
import Derived.Test.YtpomngkcfbnjoaaDoorHash
namespace Go.Dk
/-! ### Bits -/
theorem ch_eq (e f g : Nat) (hg : g < 4294967296) : g ^^^ (e &&& (f ^^^ g)) = chN e f g := by
  unfold chN
  apply Nat.eq_of_testBit_eq
  intro i
  simp only [Nat.testBit_xor, Nat.testBit_and]
  by_cases hi : i < 32
  · have h1 : Nat.testBit 4294967295 i = true := by
      have : (4294967295 : Nat) = 2 ^ 32 - 1 := by decide
      rw [this, Nat.testBit_two_pow_sub_one]; simpa using hi
    rw [h1]
    cases e.testBit i <;> cases f.testBit i <;> cases g.testBit i <;> rfl
  · have h2 : g.testBit i = false := Nat.testBit_lt_two_pow (Nat.lt_of_lt_of_le hg (by
      have : (2 : Nat) ^ 32 ≤ 2 ^ i := Nat.pow_le_pow_right (by decide) (by omega)
      exact this))
    rw [h2]
    cases e.testBit i <;> cases f.testBit i <;> simp
theorem maj_eq (a b c : Nat) : (a &&& b) ||| (c &&& (a ||| b)) = majN a b c := by
  unfold majN
  apply Nat.eq_of_testBit_eq
  intro i
  simp only [Nat.testBit_xor, Nat.testBit_and, Nat.testBit_or]
  cases a.testBit i <;> cases b.testBit i <;> cases c.testBit i <;> rfl

theorem ext_wAt {a b : List Nat} (hl : a.length = b.length) (h : ∀ i, i < b.length → wAt a i = wAt b i) : a = b := by
  apply List.ext_getElem?
  intro i
  by_cases hi : i < b.length
  · have h1 := h i hi
    unfold wAt at h1
    rw [List.getElem?_eq_getElem hi, List.getElem?_eq_getElem (by omega)] at h1 ⊢
    simpa using h1
  · rw [List.getElem?_eq_none (by omega), List.getElem?_eq_none (by omega)]
theorem wAt_set (l : List Nat) (k i v : Nat) (hk : k < l.length) : wAt (l.set k v) i = if k = i then v else wAt l i := by
  unfold wAt
  rw [List.getElem?_set]
  split
  · simp
  · rfl
theorem wAt_map (f : Nat → Nat) (n i : Nat) (h : i < n) : wAt ((List.range n).map f) i = f i := by simp [wAt, h]

/-! ### The ring of the eight numbers -/
def ringL (t : Nat) (s : St) : List Nat := (List.range 8).map fun i => wAt s.list ((i + t) % 8)
theorem ringL_length (t : Nat) (s : St) : (ringL t s).length = 8 := by simp [ringL]
theorem ringL_at (t : Nat) (s : St) (i : Nat) (h : i < 8) : wAt (ringL t s) i = wAt s.list ((i + t) % 8) := by simp [ringL, wAt, h]
/-- what stands at the place of number j, ahead of round t -/
theorem ringL_read (t : Nat) (s : St) (j : Nat) (ht : t ≤ 64) (hj : j < 8) : wAt (ringL t s) ((64 + j - t) % 8) = wAt s.list j := by
  rw [ringL_at t s _ (Nat.mod_lt _ (by decide))]
  congr 1
  omega
theorem wc_set (l : List Nat) (i v : Nat) : (wc l).set i (.int .u32 (v : Int)) = wc (l.set i v) := by simp [wc, List.map_set]
theorem ringL_put (t : Nat) (s : St) (e a k w : Nat) (ht : t < 64) (he : e = (s.step k w).e) (ha : a = (s.step k w).a) :
    ((ringL t s).set ((67 - t) % 8) e).set ((71 - t) % 8) a = ringL (t + 1) (s.step k w) := by
  subst he ha
  apply ext_wAt
  · simp [ringL]
  · intro i h2
    have hi : i < 8 := by simpa [ringL] using h2
    rw [ringL_at _ _ i hi, wAt_set _ _ _ _ (by simp [ringL]; omega), wAt_set _ _ _ _ (by simp [ringL]; omega)]
    by_cases c1 : (71 - t) % 8 = i
    · rw [if_pos c1, show (i + (t + 1)) % 8 = 0 by omega]
      rfl
    · rw [if_neg c1]
      by_cases c2 : (67 - t) % 8 = i
      · rw [if_pos c2, show (i + (t + 1)) % 8 = 4 by omega]
        rfl
      · rw [if_neg c2, ringL_at _ _ i hi]
        obtain ⟨j, hj⟩ : ∃ j, (i + t) % 8 = j := ⟨_, rfl⟩
        have hj8 : j < 8 := by omega
        have hj1 : (i + (t + 1)) % 8 = (j + 1) % 8 := by omega
        have n7 : j ≠ 7 := by omega
        have n3 : j ≠ 3 := by omega
        rw [hj1, hj]
        have : j = 0 ∨ j = 1 ∨ j = 2 ∨ j = 4 ∨ j = 5 ∨ j = 6 := by omega
        rcases this with rfl | rfl | rfl | rfl | rfl | rfl <;> rfl

/-! ### The ring of the sixteen words -/
/-- the last sixteen of the first m words -/
def ringW (m : Nat) (V : List Nat) : List Nat := (List.range 16).map fun i => wAt V (m - 16 + (i + 128 - m) % 16)
theorem ringW_length (m : Nat) (V : List Nat) : (ringW m V).length = 16 := by simp [ringW]
theorem ringW_at (m : Nat) (V : List Nat) (i : Nat) (h : i < 16) : wAt (ringW m V) i = wAt V (m - 16 + (i + 128 - m) % 16) := by simp [ringW, wAt, h]
theorem ringW_read (t : Nat) (V : List Nat) (j : Nat) (h16 : 16 ≤ t) (ht : t ≤ 64) (hj : j < 16) : wAt (ringW t V) ((t + j) % 16) = wAt V (t - 16 + j) := by
  rw [ringW_at t V _ (Nat.mod_lt _ (by decide))]
  congr 1
  omega
theorem ringW_put (t : Nat) (V : List Nat) (h16 : 16 ≤ t) (ht : t < 64) (v : Nat) (hv : v = wAt V t) : (ringW t V).set (t % 16) v = ringW (t + 1) V := by
  subst hv
  apply ext_wAt
  · simp [ringW]
  · intro i h2
    have hi : i < 16 := by simpa [ringW] using h2
    rw [wAt_set _ _ _ _ (by simp [ringW]; omega), ringW_at _ _ i hi, ringW_at _ _ i hi]
    by_cases c1 : t % 16 = i
    · rw [if_pos c1]; congr 1; omega
    · rw [if_neg c1]; congr 1; omega
theorem ringW_cur (t : Nat) (V : List Nat) (h16 : 16 ≤ t) (ht : t < 64) : wAt (ringW (t + 1) V) (t % 16) = wAt V t := by
  rw [ringW_at _ V _ (Nat.mod_lt _ (by decide))]
  congr 1
  omega
theorem ringW_first (t : Nat) (V : List Nat) (h16 : t < 16) : wAt (ringW 16 V) (t % 16) = wAt V t := by
  rw [ringW_at _ V _ (Nat.mod_lt _ (by decide))]
  congr 1
  omega
/-- the schedule's words -/
theorem sched_len (n : Nat) (l : List Nat) : (sched n l).length = l.length + n := by
  induction n with
  | zero => rfl
  | succ n ih => simp only [sched, List.length_append, List.length_singleton, ih]; omega
theorem words_len (k : Nat) (bs : List UInt8) : (words k bs).length = k := by induction k <;> simp [words, *]
theorem sched_more (n k : Nat) (l : List Nat) (i : Nat) (h : i < l.length + n) : wAt (sched (n + k) l) i = wAt (sched n l) i := by
  induction k with
  | zero => rfl
  | succ k ih =>
    rw [← ih]
    show wAt (sched (n + k) l ++ [wNext (sched (n + k) l)]) i = _
    unfold wAt
    rw [List.getElem?_append_left (by rw [sched_len]; omega)]
theorem sched_word' (W : List Nat) (hl : W.length = 16) (t : Nat) (h16 : 16 ≤ t) (ht : t < 64) : wAt (sched 48 W) t =
    add32 (add32 (add32 (wAt (sched 48 W) (t - 16)) (sig0 (wAt (sched 48 W) (t - 15)))) (wAt (sched 48 W) (t - 7))) (sig1 (wAt (sched 48 W) (t - 2))) := by
  have e1 : 48 = (t - 16 + 1) + (63 - t) := by omega
  have e2 : 48 = (t - 16) + (64 - t) := by omega
  have hb : ∀ i, i < t → wAt (sched 48 W) i = wAt (sched (t - 16) W) i := fun i hi => by
    have h := sched_more (t - 16) (64 - t) W i (by omega)
    rw [← e2] at h; exact h
  have h0 : wAt (sched 48 W) t = wNext (sched (t - 16) W) := by
    have h := sched_more (t - 16 + 1) (63 - t) W t (by omega)
    rw [← e1] at h
    rw [h]
    have h2 : sched (t - 16 + 1) W = sched (t - 16) W ++ [wNext (sched (t - 16) W)] := rfl
    rw [h2]
    unfold wAt
    rw [List.getElem?_append_right (by rw [sched_len]; omega), sched_len, show t - (W.length + (t - 16)) = 0 by omega]
    simp
  rw [h0, hb _ (by omega), hb _ (by omega), hb _ (by omega), hb _ (by omega)]
  unfold wNext
  rw [sched_len, show W.length + (t - 16) = t by omega]
theorem sched_word (bs : List UInt8) (t : Nat) (h16 : 16 ≤ t) (ht : t < 64) : wAt (sched 48 (words 16 bs)) t =
    add32 (add32 (add32 (wAt (sched 48 (words 16 bs)) (t - 16)) (sig0 (wAt (sched 48 (words 16 bs)) (t - 15)))) (wAt (sched 48 (words 16 bs)) (t - 7))) (sig1 (wAt (sched 48 (words 16 bs)) (t - 2))) :=
  sched_word' _ (words_len 16 bs) t h16 ht
theorem words_prefix' (W : List Nat) (hl : W.length = 16) : ringW 16 (sched 48 W) = W := by
  apply ext_wAt
  · rw [ringW_length, hl]
  · intro i h2
    have hi : i < 16 := by omega
    rw [ringW_at _ _ i hi, show 16 - 16 + (i + 128 - 16) % 16 = i by omega]
    have h := sched_more 0 48 W i (by omega)
    rw [Nat.zero_add] at h
    exact h
theorem words_prefix (bs : List UInt8) : ringW 16 (sched 48 (words 16 bs)) = words 16 bs := words_prefix' _ (words_len 16 bs)

/-! ### The block's words, byte by byte -/
/-- the word under way: n of its bytes -/
def pw (bs : List UInt8) (j : Nat) : Nat → Nat
  | 0 => 0
  | n + 1 => pw bs j n * 256 % 4294967296 ||| (bAt bs (4 * j + n)).toNat
def wpart (bs : List UInt8) (i : Nat) : List Nat := (List.range 16).map fun j => pw bs j (min 4 (i - 4 * j))
theorem wpart_length (bs : List UInt8) (i : Nat) : (wpart bs i).length = 16 := by simp [wpart]
theorem wpart_zero (bs : List UInt8) : wpart bs 0 = List.replicate 16 0 := by
  apply ext_wAt
  · rw [wpart_length, List.length_replicate]
  · intro i h2
    have hi : i < 16 := by simpa using h2
    have h3 : wAt (List.replicate 16 0) i = 0 := by unfold wAt; rw [List.getElem?_replicate]; split <;> rfl
    rw [h3]
    unfold wpart
    rw [wAt_map _ _ _ hi, show min 4 (0 - 4 * i) = 0 by omega]
    rfl
theorem wpart_at (bs : List UInt8) (i j : Nat) (hj : j < 16) : wAt (wpart bs i) j = pw bs j (min 4 (i - 4 * j)) := by simp [wpart, wAt, hj]
theorem wpart_put (bs : List UInt8) (i v : Nat) (hi : i < 64) (hv : v = wAt (wpart bs i) (i / 4) * 256 % 4294967296 ||| (bAt bs i).toNat) : (wpart bs i).set (i / 4) v = wpart bs (i + 1) := by
  rw [wpart_at bs i _ (by omega)] at hv
  apply ext_wAt
  · simp [wpart]
  · intro j h2
    have hj : j < 16 := by simpa [wpart] using h2
    rw [wAt_set _ _ _ _ (by rw [wpart_length]; omega), wpart_at _ _ j hj, wpart_at _ _ j hj]
    by_cases c : i / 4 = j
    · rw [if_pos c, hv, c, show min 4 (i + 1 - 4 * j) = min 4 (i - 4 * j) + 1 by omega]
      show _ = pw bs j (min 4 (i - 4 * j)) * 256 % 4294967296 ||| (bAt bs (4 * j + min 4 (i - 4 * j))).toNat
      rw [show 4 * j + min 4 (i - 4 * j) = i by omega]
    · rw [if_neg c]
      congr 1
      omega
theorem or_add (x b : Nat) (hb : b < 256) : x * 256 ||| b = x * 256 + b := by
  have h := Nat.two_pow_add_eq_or_of_lt (i := 8) (b := b) (by simpa using hb) x
  rw [show x * 256 = 2 ^ 8 * x by omega]
  exact h.symm
theorem pw_four (bs : List UInt8) (j : Nat) : pw bs j 4 = word (bAt bs (4 * j)) (bAt bs (4 * j + 1)) (bAt bs (4 * j + 2)) (bAt bs (4 * j + 3)) := by
  simp only [pw, Nat.add_zero]
  have ha := (bAt bs (4 * j)).toNat_lt
  have hb := (bAt bs (4 * j + 1)).toNat_lt
  have hc := (bAt bs (4 * j + 2)).toNat_lt
  have hd := (bAt bs (4 * j + 3)).toNat_lt
  unfold word
  generalize (bAt bs (4 * j)).toNat = a at *
  generalize (bAt bs (4 * j + 1)).toNat = b at *
  generalize (bAt bs (4 * j + 2)).toNat = c at *
  generalize (bAt bs (4 * j + 3)).toNat = d at *
  have e0 : (0 * 256 % 4294967296 ||| a) = a := by simp
  rw [e0, Nat.mod_eq_of_lt (by omega : a * 256 < 4294967296), or_add a b hb, Nat.mod_eq_of_lt (by omega : (a * 256 + b) * 256 < 4294967296), or_add _ c hc, Nat.mod_eq_of_lt (by omega : ((a * 256 + b) * 256 + c) * 256 < 4294967296), or_add _ d hd]
  have f1 : (a * 2 ^ 24 ||| b * 2 ^ 16) = (a * 256 + b) * 2 ^ 16 := by
    have h := Nat.two_pow_add_eq_or_of_lt (i := 24) (b := b * 2 ^ 16) (by omega) a
    rw [show a * 2 ^ 24 = 2 ^ 24 * a by omega, ← h]; omega
  have f2 : ((a * 256 + b) * 2 ^ 16 ||| c * 2 ^ 8) = ((a * 256 + b) * 256 + c) * 2 ^ 8 := by
    have h := Nat.two_pow_add_eq_or_of_lt (i := 16) (b := c * 2 ^ 8) (by omega) (a * 256 + b)
    rw [show (a * 256 + b) * 2 ^ 16 = 2 ^ 16 * (a * 256 + b) by omega, ← h]; omega
  have f3 : (((a * 256 + b) * 256 + c) * 2 ^ 8 ||| d) = ((a * 256 + b) * 256 + c) * 256 + d := or_add _ d hd
  rw [f1, f2, f3]
theorem words_at (bs : List UInt8) (k j : Nat) (h : j < k) : wAt (words k bs) j = word (bAt bs (4 * j)) (bAt bs (4 * j + 1)) (bAt bs (4 * j + 2)) (bAt bs (4 * j + 3)) := by
  induction k with
  | zero => omega
  | succ k ih =>
    have e : words (k + 1) bs = words k bs ++ [word (bAt bs (4 * k)) (bAt bs (4 * k + 1)) (bAt bs (4 * k + 2)) (bAt bs (4 * k + 3))] := by rw [words]
    rw [e]
    unfold wAt at *
    by_cases c : j < k
    · rw [List.getElem?_append_left (by rw [words_len]; exact c)]; exact ih c
    · obtain rfl : j = k := by omega
      rw [List.getElem?_append_right (by rw [words_len]; omega), words_len, Nat.sub_self, List.getElem?_cons_zero, Option.getD_some]
theorem wpart_end (bs : List UInt8) : wpart bs 64 = words 16 bs := by
  apply ext_wAt
  · rw [wpart_length, words_len]
  · intro j h2
    have hj : j < 16 := by rw [words_len] at h2; exact h2
    rw [wpart_at _ _ j hj, words_at bs 16 j hj, show min 4 (64 - 4 * j) = 4 by omega, pw_four]

/-! ### The text that is filled up -/
def padded (m : List UInt8) : List UInt8 := m ++ padding m.length
def wholeN (n : Nat) : Nat := (n + 72) / 64 * 64
theorem pad_len (n : Nat) : (padding n).length = 9 + (119 - n % 64) % 64 := by simp [padding, be]; omega
theorem padded_length (m : List UInt8) : (padded m).length = wholeN m.length := by
  unfold padded wholeN
  rw [List.length_append, pad_len]
  omega
theorem padded_in (m : List UInt8) (i : Nat) (h : i < m.length) : bAt (padded m) i = bAt m i := by
  unfold padded bAt
  rw [List.getElem?_append_left h]
theorem padded_one (m : List UInt8) : bAt (padded m) m.length = 128 := by
  unfold padded bAt
  rw [List.getElem?_append_right (Nat.le_refl _), Nat.sub_self]
  rfl
theorem padded_zero (m : List UInt8) (i : Nat) (h1 : m.length < i) (h2 : i + 8 < wholeN m.length) : bAt (padded m) i = 0 := by
  unfold wholeN at h2
  unfold padded bAt
  rw [List.getElem?_append_right (by omega)]
  unfold padding
  rw [List.getElem?_append_left (by simp; omega)]
  obtain ⟨k, hk⟩ : ∃ k, i - m.length = k + 1 := ⟨i - m.length - 1, by omega⟩
  rw [hk, List.getElem?_cons_succ, List.getElem?_replicate]
  split <;> rfl
theorem padded_len (m : List UInt8) (i : Nat) (h1 : m.length < i) (h2 : wholeN m.length ≤ i + 8) (h3 : i < wholeN m.length) : bAt (padded m) i = UInt8.ofNat (8 * m.length % 18446744073709551616 / 256 ^ (wholeN m.length - 1 - i)) := by
  unfold wholeN at *
  unfold padded bAt
  rw [List.getElem?_append_right (by omega)]
  unfold padding
  rw [List.getElem?_append_right (by simp; omega)]
  simp only [List.length_cons, List.length_replicate]
  unfold be
  rw [List.getElem?_map, List.getElem?_range (by omega)]
  simp only [Option.map_some, Option.getD_some]
  congr 3
  omega
theorem sha_padded (m : List UInt8) : sha m = (blocks (wholeN m.length / 64) init8 (padded m)).flatMap (be 4) := by
  rw [← padded_length]; rfl
end Go.Dk
