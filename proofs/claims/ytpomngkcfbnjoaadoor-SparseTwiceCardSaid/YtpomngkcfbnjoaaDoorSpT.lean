/- Two unlike proofs that are taken for one key and root have two unlike texts of one sum. No program is walked here. -/
import Derived.Test.YtpomngkcfbnjoaaDoorSpL
import Derived.Test.YtpomngkcfbnjoaaDoorTab5
namespace Go.Proofs.YtpomngkcfbnjoaaDoor
open Go Go.RowKit Go.Dk
theorem stepT_inj {k d n d' n' : List UInt8} {h : Nat} (h1 : d.length = 32) (h2 : n.length = 32) (h3 : d'.length = 32) (h4 : n'.length = 32) (e : stepT k d n h = stepT k d' n' h) : d = d' ∧ n = n' := by
  unfold stepT at e
  have e := (List.cons.inj e).2
  by_cases hk : keyBit k (255 - h) = 0
  · rw [if_pos hk, if_pos hk] at e
    exact List.append_inj e (by omega)
  · rw [if_neg hk, if_neg hk] at e
    exact (List.append_inj e (by omega)).symm
theorem byte_bits {x y : UInt8} (h : ∀ j, j < 8 → x.toNat / 2 ^ j % 2 = y.toNat / 2 ^ j % 2) : x = y := by
  apply UInt8.toNat_inj.1
  apply Nat.eq_of_testBit_eq
  intro j
  rw [Nat.testBit_eq_decide_div_mod_eq, Nat.testBit_eq_decide_div_mod_eq]
  by_cases hj : j < 8
  · rw [h j hj]
  · have h1 : 2 ^ 8 ≤ 2 ^ j := Nat.pow_le_pow_right (by decide) (by omega)
    have hx := x.toNat_lt
    have hy := y.toNat_lt
    rw [Nat.div_eq_of_lt (by omega), Nat.div_eq_of_lt (by omega)]
theorem bits_list {a b : List UInt8} (ha : a.length = 32) (hb : b.length = 32) (h : ∀ i, i < 256 → bitOf a i = bitOf b i) : a = b := by
  apply List.ext_getElem (by omega)
  intro i h1 h2
  have e : bAt a i = bAt b i := byte_bits fun j hj => by
    rw [← bitN_at a i j hj, ← bitN_at b i j hj]
    unfold bitN
    rw [h (8 * i + j) (by omega)]
  unfold bAt at e
  rwa [List.getElem?_eq_getElem h1, List.getElem?_eq_getElem h2] at e
theorem ones_find {bs : List UInt8} {n : Nat} : ∀ N, n < onesN bs N → ∃ h, h < N ∧ bitOf bs h = true ∧ onesN bs h = n
  | 0, hn => absurd hn (Nat.not_lt_zero _)
  | N + 1, hn => by
    by_cases h1 : n < onesN bs N
    · obtain ⟨h, h2, h3⟩ := ones_find N h1
      exact ⟨h, by omega, h3⟩
    · have e : onesN bs (N + 1) = onesN bs N + bitN bs N := rfl
      cases hb : bitOf bs N with
      | true => rw [e, bitN_of hb] at hn; exact ⟨N, Nat.lt_succ_self _, hb, by omega⟩
      | false => rw [e, bitN_no hb] at hn; omega
theorem Prf.check_zero {p : Prf} {width : Int} {root k : List UInt8} (h : p.check width root k = 0) : p.formed = true ∧ p.bad width 256 = false ∧ p.lead width k 256 = root := by
  unfold Prf.check Prf.err at h
  cases hf : p.formed <;> cases hb : p.bad width 256 <;> simp [hf, hb] at h
  exact ⟨rfl, rfl, h⟩
theorem Prf.good_at {p : Prf} {width : Int} {h : Nat} (hb : p.bad width 256 = false) (hh : h < 256) (b : bitOf p.bs h = true) : p.dig h ≠ emptyL width h := fun e => by
  have h1 : p.badAt width h = true := by unfold Prf.badAt; rw [b, decide_eq_true e]; rfl
  rw [Prf.bad_stop h1 hh] at hb
  cases hb
section
variable {p q : Prf} {width : Int} {root k : List UInt8}
theorem tw_down (hp : p.OK) (hq : q.OK) (fp : p.formed = true) (fq : q.formed = true) (hr : p.lead width k 256 = q.lead width k 256) (hn : ∀ i, i < 257 → p.lead width k i = q.lead width k i → p.text width k i = q.text width k i) : ∀ j, j ≤ 256 → p.lead width k (256 - j) = q.lead width k (256 - j)
  | 0, _ => hr
  | j + 1, hj => by
    have h1 := tw_down hp hq fp fq hr hn j (by omega)
    obtain ⟨h, hh⟩ : ∃ h, 256 - j = h + 1 := ⟨255 - j, by omega⟩
    rw [hh] at h1
    have h2 := hn (h + 1) (by omega) h1
    rw [show 256 - (j + 1) = h by omega]
    exact (stepT_inj (p.lead_length ..) (p.side_length hp fp width (by omega)) (q.lead_length ..) (q.side_length hq fq width (by omega)) h2).1
theorem tw_same (hp : p.OK) (hq : q.OK) (hcp : p.check width root k = 0) (hcq : q.check width root k = 0) (hk : k.length = 32) (hn : ∀ i, i < 257 → p.lead width k i = q.lead width k i → p.text width k i = q.text width k i) : p = q := by
  obtain ⟨fp, bp, rp⟩ := p.check_zero hcp
  obtain ⟨fq, bq, rq⟩ := q.check_zero hcq
  have hl : ∀ h, h ≤ 256 → p.lead width k h = q.lead width k h := fun h hh => by
    have h1 := tw_down hp hq fp fq (rp.trans rq.symm) hn (256 - h) (by omega)
    rwa [show 256 - (256 - h) = h by omega] at h1
  have hs : ∀ h, h < 256 → p.side width h = q.side width h := fun h hh =>
    (stepT_inj (p.lead_length ..) (p.side_length hp fp width hh) (q.lead_length ..) (q.side_length hq fq width hh) (hn (h + 1) (by omega) (hl (h + 1) (by omega)))).2
  have hb : ∀ h, h < 256 → bitOf p.bs h = bitOf q.bs h := fun h hh => by
    have h1 := hs h hh
    unfold Prf.side at h1
    cases e1 : bitOf p.bs h with
    | false =>
      cases e2 : bitOf q.bs h with
      | false => rfl
      | true =>
        simp only [e1, e2, if_true, Bool.false_eq_true, if_false] at h1
        exact absurd h1.symm (q.good_at bq hh e2)
    | true =>
      cases e2 : bitOf q.bs h with
      | true => rfl
      | false =>
        simp only [e1, e2, if_true, Bool.false_eq_true, if_false] at h1
        exact absurd h1 (p.good_at bp hh e1)
  have hbs : p.bs = q.bs := bits_list hp.bs hq.bs hb
  have hlen : p.ss.length = q.ss.length := by rw [← p.formed_ones fp, ← q.formed_ones fq, hbs]
  have hss : p.ss = q.ss := by
    apply List.ext_getElem?
    intro n
    by_cases h1 : n < p.ss.length
    · obtain ⟨h, hh, b, e⟩ := ones_find 256 (show n < onesN p.bs 256 by rw [p.formed_ones fp]; exact h1)
      have bq' : bitOf q.bs h = true := by rw [← hbs]; exact b
      have e1 := (p.dig_at fp b hh).2
      have e2 := (q.dig_at fq bq' hh).2
      have h2 := hs h hh
      unfold Prf.side at h2
      rw [if_pos b, if_pos bq'] at h2
      rw [e] at e1
      rw [← hbs, e] at e2
      rw [e1, e2, h2]
    · rw [List.getElem?_eq_none (by omega), List.getElem?_eq_none (by omega)]
  have ht : p.text0 k = q.text0 k := hn 0 (by omega) (hl 0 (by omega))
  obtain ⟨pp, pc, ph, pb, ps⟩ := p
  obtain ⟨qp, qc, qh, qb, qs⟩ := q
  simp only at hbs hss
  subst hbs hss
  have fp2 : (if pp then Prf.counted ⟨pp, pc, ph, pb, ps⟩ else Prf.blank ⟨pp, pc, ph, pb, ps⟩) = true := by
    unfold Prf.formed at fp; simp only [Bool.and_eq_true] at fp; exact fp.2
  have fq2 : (if qp then Prf.counted ⟨qp, qc, qh, pb, ps⟩ else Prf.blank ⟨qp, qc, qh, pb, ps⟩) = true := by
    unfold Prf.formed at fq; simp only [Bool.and_eq_true] at fq; exact fq.2
  unfold Prf.text0 at ht
  cases pp <;> cases qp
  · simp only [Bool.false_eq_true, if_false, Prf.blank, decide_eq_true_eq] at fp2 fq2
    obtain ⟨rfl, rfl⟩ := fp2
    obtain ⟨rfl, rfl⟩ := fq2
    rfl
  · simp at ht
  · simp at ht
  · simp only [if_true, Prf.counted, decide_eq_true_eq] at fp2 fq2
    have h3 := (tx_three (c := pc) (c' := qc) (X := k) (X' := k) (Y := ph) (Y' := qh) hk hk (by omega) (by omega) 3).1 (by simpa using ht)
    obtain ⟨_, rfl, rfl⟩ := h3
    rfl
end
end Go.Proofs.YtpomngkcfbnjoaaDoor
