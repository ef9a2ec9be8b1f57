/- What is taken is laid to the same bytes: plain facts of bytes. -/
import Derived.Test.YthphfbohhbkdgaaOpsLaw
namespace Go.Proofs.Ythphfbohhbkdgaa
open Go.RowKit Go.Dk

theorem be_num (l : List UInt8) : be l.length (num l) = l := by
  have key : ∀ (n : Nat) (l : List UInt8), l.length = n → be n (num l) = l := by
    intro n
    induction n with
    | zero => intro l hl; rw [List.length_eq_zero_iff.1 hl]; rfl
    | succ n ih =>
      intro l hl
      obtain ⟨l', c, rfl⟩ : ∃ l' c, l = l' ++ [c] := ⟨l.dropLast, l.getLast (by intro e; rw [e] at hl; cases hl), (List.dropLast_concat_getLast _).symm⟩
      have hl' : l'.length = n := by simpa using hl
      have hc := c.toNat_lt
      rw [be_succ, num_snoc, show (num l' * 256 + c.toNat) / 256 = num l' by omega, ih l' hl']
      congr 2
      apply UInt8.toNat_inj.1
      rw [UInt8.toNat_ofNat']
      show (num l' * 256 + c.toNat) % 256 = c.toNat
      omega
  exact key _ l rfl
theorem numR_ok {K : Nat} {r : List UInt8} {n k : Nat} (h : numR K r = .ok n k) : k = K ∧ K ≤ r.length ∧ be K n = r.take K ∧ n < 256 ^ K := by
  unfold numR at h
  split at h
  · cases h
  · injection h with h1 h2
    subst h1 h2
    have hl : (r.take K).length = K := by rw [List.length_take]; omega
    refine ⟨rfl, by omega, ?_, ?_⟩
    · have := be_num (r.take K)
      rwa [hl] at this
    · have := num_lt (r.take K)
      rwa [hl] at this
theorem flagR_ok {r : List UInt8} {b : Bool} {k : Nat} (h : flagR r = .ok b k) : k = 1 ∧ 1 ≤ r.length ∧ [if b then 1 else 0] = r.take 1 := by
  unfold flagR at h
  split at h
  · cases h
  · rename_i h0
    injection h with h1 h2
    subst h1 h2
    cases r with
    | nil => simp at h0
    | cons c r =>
      refine ⟨rfl, by simp, ?_⟩
      have hn : num ((c :: r).take 1) = c.toNat := by simp [num]
      rw [hn] at h0 ⊢
      show [if (c.toNat == 1) = true then 1 else 0] = [c]
      have h1 : c.toNat = 0 ∨ c.toNat = 1 := by omega
      rcases h1 with h1 | h1
      · rw [h1]
        have : c = 0 := UInt8.toNat_inj.1 h1
        rw [this]; rfl
      · rw [h1]
        have : c = 1 := UInt8.toNat_inj.1 h1
        rw [this]; rfl
theorem rawR_ok {r p : List UInt8} {n : Int} {k : Nat} (h : rawR r n = .ok p k) : p = r.take k ∧ k ≤ r.length := by
  unfold rawR at h
  split at h
  · cases h
  · injection h with h1 h2
    subst h1 h2
    exact ⟨rfl, by omega⟩
theorem chunks_flat (k : Nat) (r : List UInt8) (h : 32 * k ≤ r.length) : (chunks k r).flatten = r.take (32 * k) := by
  induction k generalizing r with
  | zero => simp [chunks]
  | succ k ih =>
    have ih := ih (r.drop 32) (by rw [List.length_drop]; omega)
    unfold chunks at ih ⊢
    rw [List.range_succ_eq_map, List.map_cons, List.map_map, List.flatten_cons, Nat.mul_zero, List.drop_zero, show 32 * (k + 1) = 32 + 32 * k by omega, List.take_add, ← ih]
    congr 2
    apply List.map_congr_left
    intro i _
    show (r.drop (32 * (i + 1))).take 32 = _
    rw [List.drop_drop, show 32 + 32 * i = 32 * (i + 1) by omega]
theorem digestsR_ok {r : List UInt8} {ds : List (List UInt8)} {n : Int} {k : Nat} (h : digestsR r n = .ok ds k) : ds.flatten = r.take k ∧ k ≤ r.length := by
  unfold digestsR at h
  split at h
  · cases h
  · injection h with h1 h2
    subst h1 h2
    exact ⟨chunks_flat _ _ (by omega), by omega⟩
theorem sizedR_ok {K e : Nat} {r s : List UInt8} {b : Int} {k : Nat} (h : sizedR K e r b = .ok s k) : be K s.length ++ s = r.take k ∧ k ≤ r.length ∧ (s.length : Int) ≤ b ∧ k = K + s.length := by
  unfold sizedR at h
  split at h
  · cases h
  · split at h
    · cases h
    · split at h
      · cases h
      · injection h with h1 h2
        subst h1 h2
        have hs : ((r.drop K).take (num (r.take K))).length = num (r.take K) := by rw [List.length_take, List.length_drop]; omega
        have hl : (r.take K).length = K := by rw [List.length_take]; omega
        have hb := be_num (r.take K)
        rw [hl] at hb
        rw [hs, hb, ← List.take_add]
        exact ⟨rfl, by omega, by omega, rfl⟩
theorem textsGo_ok {each : Int} {k : Nat} {acc : List (List UInt8)} {at_ : Nat} {r : List UInt8} {ss : List (List UInt8)} {j : Nat} (h : textsGo each k acc at_ r = .ok ss j) :
    ∃ ts, ss = acc ++ ts ∧ j = at_ + (tflat ts).length ∧ tflat ts = r.take (tflat ts).length ∧ (tflat ts).length ≤ r.length ∧ ∀ i, acc.length ≤ i → i < ss.length → textsAt ss each i = 0 := by
  induction k generalizing acc at_ r with
  | zero =>
    rw [textsGo] at h
    injection h with h1 h2
    subst h1 h2
    exact ⟨[], by simp, by simp [tflat], by simp [tflat], by simp [tflat], fun i h1 h2 => by omega⟩
  | succ k ih =>
    rw [textsGo] at h
    split at h
    · cases h
    · rename_i s n hs
      split at h
      · cases h
      · rename_i hn
        obtain ⟨ts, e1, e2, e3, e4, e5⟩ := ih h
        obtain ⟨f1, f2, f3, f4⟩ := sizedR_ok hs
        rw [List.length_drop] at e4
        have e6 : (tflat (s :: ts)).length = 2 + s.length + (tflat ts).length := by simp [tflat, be_length]; omega
        have e7 : tflat (s :: ts) = be 2 s.length ++ s ++ tflat ts := by simp [tflat]
        refine ⟨s :: ts, by rw [e1]; simp, by omega, ?_, by omega, fun i h1 h2 => ?_⟩
        · rw [e6, e7, f1, show 2 + s.length + (tflat ts).length = n + (tflat ts).length by omega, List.take_add, ← e3]
        · rcases Nat.eq_or_lt_of_le h1 with rfl | h3
          · have g1 : ss.getD acc.length [] = s := by rw [e1, List.append_assoc, List.getD_eq_getElem?_getD, List.getElem?_append_right (Nat.le_refl _), Nat.sub_self]; rfl
            unfold textsAt
            rw [g1, if_neg (by omega), if_neg]
            intro hh
            refine hn ⟨fun e => by rw [e] at hh; exact absurd hh.1 (by decide), ?_⟩
            have g2 : ss.getD (acc.length - 1) [] = acc.getLastD [] := by
              rw [e1, List.append_assoc, List.getD_eq_getElem?_getD, List.getElem?_append_left (by omega), List.getLastD_eq_getLast?, List.getLast?_eq_getElem?]
            rw [← g2]; exact hh.2
          · exact e5 i (by rw [List.length_append]; exact h3) h2
theorem firstE_none (f : Nat → Nat) (k i : Nat) (h : ∀ j, i ≤ j → j < i + k → f j = 0) : firstE f i k = 0 := by
  induction k generalizing i with
  | zero => rfl
  | succ k ih => rw [firstE, if_pos (h i (Nat.le_refl _) (by omega))]; exact ih (i + 1) (fun j h1 h2 => h j (by omega) (by omega))
theorem textsR_ok {r : List UInt8} {ss : List (List UInt8)} {most each : Int} {k : Nat} (h : textsR r most each = .ok ss k) : textsE ss most each = 0 ∧ be 2 ss.length ++ tflat ss = r.take k ∧ k ≤ r.length ∧ k = 2 + (tflat ss).length := by
  unfold textsR at h
  split at h
  · cases h
  · split at h
    · cases h
    · rename_i h1 h2
      have hlen := textsGo_len _ _ _ _ _ h
      rw [List.length_nil, Nat.zero_add] at hlen
      obtain ⟨ts, e1, e2, e3, e4, e5⟩ := textsGo_ok h
      rw [List.nil_append] at e1
      subst e1
      have hl : (r.take 2).length = 2 := by rw [List.length_take]; omega
      have hb := be_num (r.take 2)
      rw [hl] at hb
      rw [List.length_drop] at e4
      refine ⟨?_, ?_, by omega, e2⟩
      · rw [textsE, if_neg (by rw [hlen]; exact h2)]
        exact firstE_none _ _ _ (fun j _ hj => e5 j (Nat.zero_le _) (by omega))
      · rw [hlen, hb, e2, List.take_add, ← e3]
theorem val_ok {α β : Type} {f : α → β} {r : Res α} {v : β} {k : Nat} (h : r.map f = .ok v k) : ∃ x, r = .ok x k ∧ v = f x := by
  cases r with
  | no e => cases h
  | ok x j => injection h with h1 h2; subst h1 h2; exact ⟨x, rfl, rfl⟩
theorem val_no {α β : Type} {f : α → β} {r : Res α} {e : Nat} (h : r.map f = .no e) : r = .no e := by
  cases r with
  | no e' => injection h with h1; subst h1; rfl
  | ok x j => cases h
theorem tflat_nil0 : (tflat []).length = 0 := rfl
/-- what a step took it lays again -/
theorem forth1 (o o' : OpX) (hk : o'.kind = o.kind) (hmo : o'.most = o.most) (hea : o'.each = o.each) {r : List UInt8} {v : Vals} {k : Nat} (hv : o'.v = (Res.ok v k).val vals0 0) (h : agR o r = .ok v k) :
    laysE o' = 0 ∧ laysL o' = r.take k ∧ k ≤ r.length ∧ vSz o'.v ≤ 8 + k := by
  replace hv : o'.v = v := hv
  unfold agR at h
  unfold laysE laysL
  rw [hk, hmo, hea, hv]
  unfold vSz
  by_cases k1 : o.kind = 1
  · rw [if_pos k1] at h
    obtain ⟨x, h1, rfl⟩ := val_ok h
    obtain ⟨rfl, e1, e2, e3⟩ := numR_ok h1
    simp only [k1]
    refine ⟨by simp, ?_, e1, by simp [vN, tflat]⟩
    simp only [if_pos]
    rw [show (vN x).n % 256 = x from Nat.mod_eq_of_lt e3, e2]
  rw [if_neg k1] at h
  by_cases k2 : o.kind = 2
  · rw [if_pos k2] at h
    obtain ⟨x, h1, rfl⟩ := val_ok h
    obtain ⟨rfl, e1, e2, e3⟩ := numR_ok h1
    refine ⟨by simp [k2], ?_, e1, by simp [vN, tflat]⟩
    rw [if_neg k1, if_pos k2, show (vN x).n % 65536 = x from Nat.mod_eq_of_lt e3, e2]
  rw [if_neg k2] at h
  by_cases k3 : o.kind = 3
  · rw [if_pos k3] at h
    obtain ⟨x, h1, rfl⟩ := val_ok h
    obtain ⟨rfl, e1, e2, e3⟩ := numR_ok h1
    refine ⟨by simp [k3], ?_, e1, by simp [vN, tflat]⟩
    rw [if_neg k1, if_neg k2, if_pos k3, show (vN x).n % 4294967296 = x from Nat.mod_eq_of_lt e3, e2]
  rw [if_neg k3] at h
  by_cases k4 : o.kind = 4
  · rw [if_pos k4] at h
    obtain ⟨x, h1, rfl⟩ := val_ok h
    obtain ⟨rfl, e1, e2, e3⟩ := numR_ok h1
    refine ⟨by simp [k4], ?_, e1, by simp [vN, tflat]⟩
    rw [if_neg k1, if_neg k2, if_neg k3, if_pos k4]
    exact e2
  rw [if_neg k4] at h
  by_cases k5 : o.kind = 5
  · rw [if_pos k5] at h
    obtain ⟨x, h1, rfl⟩ := val_ok h
    obtain ⟨rfl, e1, e2⟩ := flagR_ok h1
    refine ⟨by simp [k5], ?_, e1, by simp [vB, tflat]⟩
    rw [if_neg k1, if_neg k2, if_neg k3, if_neg k4, if_pos k5]
    exact e2
  rw [if_neg k5] at h
  by_cases k6 : o.kind = 6
  · rw [if_pos k6] at h
    obtain ⟨x, h1, rfl⟩ := val_ok h
    obtain ⟨e1, e2⟩ := digestsR_ok h1
    refine ⟨by simp [k6], ?_, e2, ?_⟩
    · rw [if_neg k1, if_neg k2, if_neg k3, if_neg k4, if_neg k5, if_pos k6]
      exact e1
    · show 8 + 0 + 0 + x.flatten.length + 0 ≤ 8 + k
      rw [e1, List.length_take]; omega
  rw [if_neg k6] at h
  by_cases k7 : o.kind = 7
  · rw [if_pos k7] at h
    obtain ⟨x, h1, rfl⟩ := val_ok h
    obtain ⟨e1, e2⟩ := rawR_ok h1
    refine ⟨by simp [k7], ?_, e2, ?_⟩
    · rw [if_neg k1, if_neg k2, if_neg k3, if_neg k4, if_neg k5, if_neg k6, if_pos k7]
      exact e1
    · show 8 + x.length + 0 + 0 + 0 ≤ 8 + k
      rw [e1, List.length_take]; omega
  rw [if_neg k7] at h
  by_cases k8 : o.kind = 8
  · rw [if_pos k8] at h
    obtain ⟨x, h1, rfl⟩ := val_ok h
    obtain ⟨e1, e2, e3, e4⟩ := sizedR_ok h1
    rw [if_pos k8, if_neg k1, if_neg k2, if_neg k3, if_neg k4, if_neg k5, if_neg k6, if_neg k7, if_pos k8]
    refine ⟨if_neg (by show ¬ bnd o.most 65535 < (x.length : Int); omega), ?_, e2, ?_⟩
    · rw [textB, if_neg (by show ¬ bnd o.most 65535 < (x.length : Int); omega)]
      exact e1
    · show 8 + 0 + x.length + 0 + 0 ≤ 8 + k
      omega
  rw [if_neg k8] at h
  by_cases k9 : o.kind = 9
  · rw [if_pos k9] at h
    obtain ⟨x, h1, rfl⟩ := val_ok h
    obtain ⟨e1, e2, e3, e4⟩ := sizedR_ok h1
    rw [if_neg k8, if_pos k9, if_neg k1, if_neg k2, if_neg k3, if_neg k4, if_neg k5, if_neg k6, if_neg k7, if_neg k8, if_pos k9]
    refine ⟨if_neg (by show ¬ bnd o.most 2147483647 < (x.length : Int); omega), ?_, e2, ?_⟩
    · rw [bytesB, if_neg (by show ¬ bnd o.most 2147483647 < (x.length : Int); omega)]
      exact e1
    · show 8 + x.length + 0 + 0 + 0 ≤ 8 + k
      omega
  rw [if_neg k9] at h
  by_cases k10 : o.kind = 10
  · rw [if_pos k10] at h
    obtain ⟨x, h1, rfl⟩ := val_ok h
    obtain ⟨e1, e2, e3, e4⟩ := textsR_ok h1
    rw [if_neg k8, if_neg k9, if_pos k10, if_neg k1, if_neg k2, if_neg k3, if_neg k4, if_neg k5, if_neg k6, if_neg k7, if_neg k8, if_neg k9, if_pos k10]
    refine ⟨e1, ?_, e3, ?_⟩
    · rw [textsB, if_pos (show textsE (vSS x).ss o.most o.each = 0 from e1)]
      exact e2
    · show 8 + 0 + 0 + 0 + (tflat x).length ≤ 8 + k
      omega
  · rw [if_neg k10] at h
    injection h with h1 h2
    subst h1 h2
    rw [if_neg k8, if_neg k9, if_neg k10, if_neg k1, if_neg k2, if_neg k3, if_neg k4, if_neg k5, if_neg k6, if_neg k7, if_neg k8, if_neg k9, if_neg k10]
    exact ⟨rfl, rfl, Nat.zero_le _, Nat.le_refl _⟩
theorem textsGo_no {each : Int} {k : Nat} {acc : List (List UInt8)} {at_ : Nat} {r : List UInt8} {e : Nat} (h : textsGo each k acc at_ r = .no e) : e ≠ 0 := by
  induction k generalizing acc at_ r with
  | zero => rw [textsGo] at h; cases h
  | succ k ih =>
    rw [textsGo] at h
    split at h
    · rename_i e' hs
      injection h with h
      subst h
      rcases sized_no hs with rfl | rfl <;> decide
    · split at h
      · injection h with h; subst h; decide
      · exact ih h
theorem agR_no {o : OpX} {r : List UInt8} {e : Nat} (h : agR o r = .no e) : e ≠ 0 := by
  have hnum : ∀ {K e}, numR K r = .no e → e ≠ 0 := fun {K e} h => by
    unfold numR at h
    split at h
    · injection h with h; subst h; decide
    · cases h
  unfold agR at h
  by_cases k1 : o.kind = 1
  · rw [if_pos k1] at h; exact hnum (val_no h)
  rw [if_neg k1] at h
  by_cases k2 : o.kind = 2
  · rw [if_pos k2] at h; exact hnum (val_no h)
  rw [if_neg k2] at h
  by_cases k3 : o.kind = 3
  · rw [if_pos k3] at h; exact hnum (val_no h)
  rw [if_neg k3] at h
  by_cases k4 : o.kind = 4
  · rw [if_pos k4] at h; exact hnum (val_no h)
  rw [if_neg k4] at h
  by_cases k5 : o.kind = 5
  · rw [if_pos k5] at h
    have h := val_no h
    unfold flagR at h
    split at h
    · injection h with h; subst h; decide
    · cases h
  rw [if_neg k5] at h
  by_cases k6 : o.kind = 6
  · rw [if_pos k6] at h
    have h := val_no h
    unfold digestsR at h
    split at h
    · injection h with h; subst h; decide
    · cases h
  rw [if_neg k6] at h
  by_cases k7 : o.kind = 7
  · rw [if_pos k7] at h
    have h := val_no h
    unfold rawR at h
    split at h
    · injection h with h; subst h; decide
    · cases h
  rw [if_neg k7] at h
  by_cases k8 : o.kind = 8
  · rw [if_pos k8] at h; rcases sized_no (val_no h) with rfl | rfl <;> decide
  rw [if_neg k8] at h
  by_cases k9 : o.kind = 9
  · rw [if_pos k9] at h; rcases sized_no (val_no h) with rfl | rfl <;> decide
  rw [if_neg k9] at h
  by_cases k10 : o.kind = 10
  · rw [if_pos k10] at h
    have h := val_no h
    unfold textsR at h
    split at h
    · injection h with h; subst h; decide
    · split at h
      · injection h with h; subst h; decide
      · exact textsGo_no h
  · rw [if_neg k10] at h; cases h
end Go.Proofs.Ythphfbohhbkdgaa
