/- The document's own: numbers and names as bytes, legal names, what is right. -/
import Derived.Test.YtepbmdlgdaedpaaGreatDoorEv9
import Derived.Test.YtepbmdlgdaedpaaGreatDoorSt1
import Derived.Test.YtepbmdlgdaedpaaGreatDoorRf
namespace Go.Proofs.YtepbmdlgdaedpaaGreatDoor
open Go.RowKit Go.Dk

theorem nr3_v15 : notRow Tryz.prog 3 = true := by kernel_rfl
theorem nr9_v15 : notRow Tryz.prog 9 = true := by kernel_rfl
theorem nr22_v15 : notRow Tryz.prog 22 = true := by kernel_rfl
theorem nr23_v15 : notRow Tryz.prog 23 = true := by kernel_rfl
theorem sz3_v15 : (Tryz.prog.info? 3).map (·.size) = some 1 := by kernel_rfl
theorem sz9_v15 : (Tryz.prog.info? 9).map (·.size) = some 1 := by kernel_rfl
theorem sz22_v15 : (Tryz.prog.info? 22).map (·.size) = some 1 := by kernel_rfl
theorem sz23_v15 : (Tryz.prog.info? 23).map (·.size) = some 1 := by kernel_rfl
theorem cl108_v15 : CallsTo Tryz.prog 108 := ⟨_, Tryz.func108, by kernel_rfl, by kernel_rfl⟩
theorem cl157_v15 : CallsTo Tryz.prog 157 := ⟨_, Tryz.func157, by kernel_rfl, by kernel_rfl⟩
set_option maxRecDepth 100000 in
set_option maxHeartbeats 8000000 in
theorem rv_number {w0 : World} {R : List Seg} (n : Int) (kk : Nat) (z : Int) (w : World) (hz : z = kk) (hKK : kk ≤ 8) (hA : Hp w0 R w) : Calls Tryz.prog 108 #[.int .i64 n, .int .i64 z] w fun e w' => ∃ v Z, e = .returned v ∧ Buf 5 1 Z v (be kk (u64 n)).length (dc (be kk (u64 n))) ∧ Hp w0 (Z :: R) w' := by
  refine vc_enter Tryz.func108 rfl Tryz.ntmps108 (Nat.le_of_ble_eq_true rfl) (fun a hF => ?_)
  apply wp_seq_k; intro K1 hK1
  refine wp_region_lit ?_
  refine vc_y hF rfl rfl (by decide) _ (y_assign rfl rfl) (fun a hF => ?_)
  refine vc_nil ?_
  refine hK1 _ _ ?_; clear  hK1 K1
  apply wp_seq_k; intro K2 hK2
  refine wp_region_lit ?_
  refine vc_y hF rfl rfl (by decide) _ (y_move rfl rfl) (fun a hF => ?_)
  refine vc_y hF rfl rfl (by decide) _ (y_conv rfl Tryz.underlying3 Tryz.underlying135 rfl (u64_wrap _)) (fun a hF => ?_)
  refine vc_y hF rfl rfl (by decide) _ (y_move rfl rfl) (fun a hF => ?_)
  refine vc_op rfl (fun K hK => ws_call hF rfl (by decide) cl157_v15 rfl rfl ?_)
  with_reducible refine (rf_number w0 _ R (u64 n) kk _ z rfl hz hKK hA ).mono ?_
  rintro e' w1 ⟨g, rfl, hA2⟩
  refine ⟨_, rfl, fun a hF => hK _ _ ?_⟩
  clear hK K
  replace hA2 : Hp w0 ([row g 5 (dc (be kk (u64 n)))] :: R) w1 := hA2
  refine vc_y hF rfl rfl (by decide) _ (y_assign rfl rfl) (fun a hF => ?_)
  refine vc_nil ?_
  refine hK2 _ _ ?_; clear  hK2 K2
  apply wp_ret
  refine vc_ret1 hF Tryz.results108 rfl ?_
  exact ⟨_, _, rfl, by rw [be_length]; exact Buf.full (by rw [dc_length, be_length, Nat.mul_one]) (by omega), hA2⟩
theorem u64_len {n : Nat} (h : n < 140737488353900) : u64 (n : Int) = n := by unfold u64; omega

set_option maxRecDepth 100000 in
set_option maxHeartbeats 8000000 in
theorem rv_name {w0 : World} {R : List Seg} (s : List UInt8) (w : World) (hl : s.length < 140737488353900) (hA : Hp w0 R w) : Calls Tryz.prog 109 #[strV s] w fun e w' => ∃ v Z, e = .returned v ∧ Buf 5 1 Z v (nameB s).length (dc (nameB s)) ∧ Hp w0 (Z :: R) w' := by
  refine vc_enter Tryz.func109 rfl Tryz.ntmps109 (Nat.le_of_ble_eq_true rfl) (fun a hF => ?_)
  apply wp_seq_k; intro K1 hK1
  refine wp_region_lit ?_
  refine vc_y hF rfl rfl (by decide) _ (y_assign rfl rfl) (fun a hF => ?_)
  refine vc_nil ?_
  refine hK1 _ _ ?_; clear  hK1 K1
  apply wp_seq_k; intro K2 hK2
  refine wp_region_lit ?_
  refine vc_y hF rfl rfl (by decide) _ (y_move rfl rfl) (fun a hF => ?_)
  refine vc_y hF rfl rfl (by decide) _ (y_lenStr (z := (s.length : Nat)) rfl Tryz.underlying9 rfl rfl) (fun a hF => ?_)
  refine vc_op rfl (fun K hK => ws_call hF rfl (by decide) cl108_v15 rfl rfl ?_)
  with_reducible refine (rv_number (s.length : Int) 2 2 _ rfl (by decide) hA ).mono ?_
  rintro e' w1 ⟨v1, Z1, rfl, hO, hA2⟩
  refine ⟨_, rfl, fun a hF => hK _ _ ?_⟩
  clear hK K
  replace hA2 : Hp w0 (Z1 :: R) w1 := hA2
  rw [u64_len hl] at hO
  refine vc_y hF rfl rfl (by decide) _ (y_move rfl rfl) (fun a hF => ?_)
  refine vc_op rfl (fun K hK => hs_append hF rfl (by decide) rfl hA2 0 rfl hO Tryz.underlying27 ow_elem5 rfl rfl (Src.ofString _ Tryz.underlying9 ⟨s.toArray⟩) (by rw [be_length, show (ByteArray.mk s.toArray).size = s.length from rfl]; omega) (by decide) (fun v2 X2 w3 a hO2 hF hA4 => hK _ _ ?_))
  clear hK K
  replace hA4 : Hp w0 (X2 :: R) w3 := hA4
  refine vc_y hF rfl rfl (by decide) _ (y_assign rfl rfl) (fun a hF => ?_)
  refine vc_nil ?_
  refine hK2 _ _ ?_; clear  hK2 K2
  apply wp_ret
  refine vc_ret1 hF Tryz.results109 rfl ?_
  replace hO2 : Buf 5 1 X2 v2 ((be 2 s.length).length + s.length) (dc (be 2 s.length) ++ dc s) := hO2
  exact ⟨v2, X2, rfl, by unfold nameB; rw [List.length_append, dc_append]; exact hO2, hA4⟩
theorem lss_geq (a b : List UInt8) : strB .lss a b = !strB .geq a b := by
  unfold strB
  cases h : Op.bytesLess a b <;> simp
theorem rr_kind {va : VA} (h : ((cmpB .lss (va.v.k) (0)) || (cmpB .gtr (va.v.k) (5))) = true) : va.v.right = 8 := by
  have hf : va.v.formed = false := by
    simp only [cmpB, Bool.or_eq_true, decide_eq_true_eq] at h
    unfold Val.formed
    split
    · rfl
    rw [if_neg (by omega), if_neg (by omega), if_neg (by omega), if_neg (by omega)]
  exact if_pos hf
theorem rr_form {va : VA} (h : ((((cmpB .neq (va.v.n) (0)) && (((cmpB .eql (va.v.k) (0)) || (cmpB .eql (va.v.k) (3))) || (cmpB .eql (va.v.k) (5)))) || ((strB .neq va.v.t []) && (cmpB .neq (va.v.k) (3)))) || ((cmpB .gtr (va.v.s.length) (0)) && (cmpB .neq (va.v.k) (5)))) = true) : va.v.right = 8 := by
  have hf : va.v.formed = false := by
    simp only [cmpB, strB, Bool.or_eq_true, Bool.and_eq_true, decide_eq_true_eq, Bool.not_eq_true', beq_eq_false_iff_ne, beq_iff_eq, bne_iff_ne, ne_eq] at h
    unfold Val.formed
    by_cases h0 : (va.v.k ≠ 3 ∧ va.v.t ≠ []) ∨ (va.v.k ≠ 5 ∧ va.v.s ≠ [])
    · rw [if_pos h0]
    rw [if_neg h0]
    have h1 : va.v.n ≠ 0 ∧ (va.v.k = 0 ∨ va.v.k = 3 ∨ va.v.k = 5) := by
      rcases h with (h | h) | h
      · exact ⟨h.1, by omega⟩
      · exact absurd (.inl ⟨h.2, h.1⟩) h0
      · exact absurd (.inr ⟨h.2, fun e => by rw [e] at h; simp at h⟩) h0
    obtain ⟨h1, h2⟩ := h1
    rw [if_neg (by omega), if_neg (by omega)]
    split
    · simp [h1]
    · rw [if_pos (by omega)]; simp [h1]
  exact if_pos hf
theorem rr_bool {va : VA} (h : (((cmpB .eql (va.v.k) (2)) && (cmpB .neq (va.v.n) (0))) && (cmpB .neq (va.v.n) (1))) = true) : va.v.right = 8 := by
  have hf : va.v.formed = false := by
    simp only [cmpB, Bool.and_eq_true, beq_iff_eq, bne_iff_ne, ne_eq] at h
    unfold Val.formed
    split
    · rfl
    rw [if_neg (by omega), if_pos (by omega)]
    simp; omega
  exact if_pos hf
theorem rr_head {va : VA} (h1 : ((cmpB .lss (va.v.k) (0)) || (cmpB .gtr (va.v.k) (5))) = false) (h2 : ((((cmpB .neq (va.v.n) (0)) && (((cmpB .eql (va.v.k) (0)) || (cmpB .eql (va.v.k) (3))) || (cmpB .eql (va.v.k) (5)))) || ((strB .neq va.v.t []) && (cmpB .neq (va.v.k) (3)))) || ((cmpB .gtr (va.v.s.length) (0)) && (cmpB .neq (va.v.k) (5)))) = false) (h3 : (((cmpB .eql (va.v.k) (2)) && (cmpB .neq (va.v.n) (0))) && (cmpB .neq (va.v.n) (1))) = false) : (0 ≤ va.v.k ∧ va.v.k ≤ 5) ∧ ((va.v.k = 3 ∨ va.v.t = []) ∧ (va.v.k = 5 ∨ va.v.s = [])) ∧ ((va.v.n = 0 ∨ va.v.k = 1 ∨ va.v.k = 2 ∨ va.v.k = 4) ∧ (va.v.k = 2 → va.v.n = 0 ∨ va.v.n = 1)) := by
  simp only [cmpB, strB, Bool.or_eq_false_iff, Bool.and_eq_false_iff, decide_eq_false_iff_not, Bool.not_eq_false', beq_iff_eq, beq_eq_false_iff_ne, bne_eq_false_iff_eq, ne_eq] at h1 h2 h3
  obtain ⟨⟨q1, q2⟩, q3⟩ := h2
  refine ⟨by omega, ⟨?_, ?_⟩, by omega, fun e => by omega⟩
  · rcases q2 with q | q
    · exact .inr q
    · exact .inl (by omega)
  · rcases q3 with q | q
    · right
      cases hs : va.v.s with
      | nil => rfl
      | cons x l => rw [hs] at q; simp at q
    · exact .inl (by omega)
theorem rr_set {va : VA} (hk : 0 ≤ va.v.k ∧ va.v.k ≤ 5) (hb : (va.v.k = 3 ∨ va.v.t = []) ∧ (va.v.k = 5 ∨ va.v.s = [])) (hr : risesTo va.v.s va.v.s.length = false) : va.v.right = 8 := by
  have hf : va.v.formed = false := by
    unfold Val.formed
    split
    · rfl
    have h5 : va.v.k = 5 := hb.2.resolve_right fun e => by rw [e] at hr; exact absurd hr (by decide)
    rw [if_neg (by omega), if_neg (by omega), if_neg (by omega), if_pos h5, hr]
    rfl
  exact if_pos hf
theorem rr_formed {va : VA} (hk : 0 ≤ va.v.k ∧ va.v.k ≤ 5) (hb : (va.v.k = 3 ∨ va.v.t = []) ∧ (va.v.k = 5 ∨ va.v.s = [])) (hc : (va.v.n = 0 ∨ va.v.k = 1 ∨ va.v.k = 2 ∨ va.v.k = 4) ∧ (va.v.k = 2 → va.v.n = 0 ∨ va.v.n = 1)) (hr : risesTo va.v.s va.v.s.length = true) : va.v.formed = true := by
  unfold Val.formed
  rw [if_neg (by
    rintro (⟨h1, h2⟩ | ⟨h1, h2⟩)
    · rcases hb.1 with h | h
      · exact h1 h
      · exact h2 h
    · rcases hb.2 with h | h
      · exact h1 h
      · exact h2 h)]
  split
  · rfl
  split
  · rename_i h; exact decide_eq_true (hc.2 h)
  split
  · exact decide_eq_true (by omega)
  split
  · rw [hr, decide_eq_true (show va.v.n = 0 by omega)]; rfl
  · omega
theorem rr_not {va : VA} (h : va.v.formed = true) : ¬ va.v.formed = false := by rw [h]; decide
theorem rr_111 {va : VA} (hf : va.v.formed = true) (h : ((cmpB .eql (va.v.k) (4)) && ((cmpB .lss (va.v.n) (0)) || (cmpB .gtr (va.v.n) (4611686018427387904)))) = true) : va.v.right = 111 := by
  simp only [cmpB, Bool.or_eq_true, Bool.and_eq_true, decide_eq_true_eq, beq_iff_eq] at h
  exact (if_neg (rr_not hf)).trans (if_pos ⟨h.1, by omega⟩)
theorem rr_n4 {va : VA} (h : ((cmpB .eql (va.v.k) (4)) && ((cmpB .lss (va.v.n) (0)) || (cmpB .gtr (va.v.n) (4611686018427387904)))) = false) : ¬ (va.v.k = 4 ∧ ¬ (0 ≤ va.v.n ∧ va.v.n ≤ 4611686018427387904)) := by
  simp only [cmpB, Bool.or_eq_false_iff, Bool.and_eq_false_iff, decide_eq_false_iff_not, beq_eq_false_iff_ne, ne_eq] at h
  omega
theorem rr_113 {va : VA} (hf : va.v.formed = true) (h4 : ((cmpB .eql (va.v.k) (4)) && ((cmpB .lss (va.v.n) (0)) || (cmpB .gtr (va.v.n) (4611686018427387904)))) = false) (h : (cmpB .gtr ((va.v.t.length : Nat)) (1024)) = true) : va.v.right = 113 := by
  simp only [cmpB, decide_eq_true_eq] at h
  exact (if_neg (rr_not hf)).trans ((if_neg (rr_n4 h4)).trans (if_pos (.inl (by omega))))
theorem rr_113b {va : VA} {q : List UInt8} {i : Nat} (hf : va.v.formed = true) (h4 : ((cmpB .eql (va.v.k) (4)) && ((cmpB .lss (va.v.n) (0)) || (cmpB .gtr (va.v.n) (4611686018427387904)))) = false) (_h5 : (cmpB .gtr ((va.v.t.length : Nat)) (1024)) = false) (hp : va.v.s[i]? = some q) (hw : longT q = true) : va.v.right = 113 :=
  (if_neg (rr_not hf)).trans ((if_neg (rr_n4 h4)).trans (if_pos (.inr (List.any_eq_true.2 ⟨q, List.mem_of_getElem? hp, hw⟩))))
theorem rr_n5 {va : VA} (h5 : (cmpB .gtr ((va.v.t.length : Nat)) (1024)) = false) (hall : va.v.s.any longT = false) : ¬ (1024 < va.v.t.length ∨ va.v.s.any longT = true) := by
  simp only [cmpB, decide_eq_false_iff_not] at h5
  rw [hall]
  rintro (h | h)
  · omega
  · exact absurd h (by decide)
theorem rr_114 {va : VA} (hf : va.v.formed = true) (h4 : ((cmpB .eql (va.v.k) (4)) && ((cmpB .lss (va.v.n) (0)) || (cmpB .gtr (va.v.n) (4611686018427387904)))) = false) (h5 : (cmpB .gtr ((va.v.t.length : Nat)) (1024)) = false) (hall : va.v.s.any longT = false) (h6 : (cmpB .gtr (va.v.s.length) (64)) = true) : va.v.right = 114 := by
  simp only [cmpB, decide_eq_true_eq] at h6
  exact (if_neg (rr_not hf)).trans ((if_neg (rr_n4 h4)).trans ((if_neg (rr_n5 h5 hall)).trans (if_pos (by omega))))
theorem rr_0 {va : VA} (hf : va.v.formed = true) (h4 : ((cmpB .eql (va.v.k) (4)) && ((cmpB .lss (va.v.n) (0)) || (cmpB .gtr (va.v.n) (4611686018427387904)))) = false) (h5 : (cmpB .gtr ((va.v.t.length : Nat)) (1024)) = false) (hall : va.v.s.any longT = false) (h6 : (cmpB .gtr (va.v.s.length) (64)) = false) : va.v.right = 0 := by
  simp only [cmpB, decide_eq_false_iff_not] at h6
  exact (if_neg (rr_not hf)).trans ((if_neg (rr_n4 h4)).trans ((if_neg (rr_n5 h5 hall)).trans (if_neg (by omega))))
theorem long_t {q : List UInt8} (h : longT q = true) : cmpB .gtr (q.length : Nat) 1024 = true := by
  unfold longT at h
  have := of_decide_eq_true h
  exact gtr_t (by omega)
theorem long_f {q : List UInt8} (h : longT q = false) : cmpB .gtr (q.length : Nat) 1024 = false := by
  unfold longT at h
  have := of_decide_eq_false h
  exact gtr_f (by omega)

set_option maxRecDepth 100000 in
set_option maxHeartbeats 8000000 in
theorem rv_right {w0 : World} {R : List Seg} {G : List Seg} (va : VA) (w : World) (hV : va.Ok w0 G) (hG : G ⊆ R) (hA : Hp w0 R w) : Calls Tryz.prog 107 #[.agg va.cells.toArray] w fun e w' => e = .returned (.int .i64 (va.v.right : Nat)) ∧ Hp w0 R w' := by
  have hn := hV.n
  refine vc_enter Tryz.func107 rfl Tryz.ntmps107 (Nat.le_of_ble_eq_true rfl) (fun a hF => ?_)
  apply wp_seq_k; intro K1 hK1
  refine wp_region_lit ?_
  refine vc_op rfl (fun K hK => hs_box (cs := [.int .i64 va.v.k, .int .i64 va.v.n, strV va.v.t, .slice va.sA va.v.s.length va.sC]) hF rfl (by decide) rfl hA rfl (fun b1 w2 a hb1 hF hA3 => hK _ _ ?_))
  clear hK K
  replace hA3 : Hp w0 ([row b1 25 [.int .i64 va.v.k, .int .i64 va.v.n, strV va.v.t, .slice va.sA va.v.s.length va.sC]] :: R) w2 := hA3
  refine vc_y hF rfl rfl (by decide) _ (y_assign rfl rfl) (fun a hF => ?_)
  refine vc_nil ?_
  refine hK1 _ _ ?_; clear  hK1 K1
  apply wp_seq_k; intro K2 hK2
  apply wp_seq_k; intro K3 hK3
  refine wp_region_lit ?_
  refine vc_y hF rfl rfl (by decide) _ (y_field rfl Tryz.underlying25 rfl sz22_v15 (by decide) rfl (rfl : (⟨_, 0 + _, none⟩ : Addr) = ⟨_, 0, none⟩)) (fun a hF => ?_)
  refine vc_y hF rfl rfl (by decide) _ (y_ld rfl hA3.q rfl 0 rfl rfl nr22_v15) (fun a hF => ?_)
  refine vc_y hF rfl rfl (by decide) _ (y_cmp rfl rfl rfl rfl rfl) (fun a hF => ?_)
  refine vc_y hF rfl rfl (by decide) _ (y_move rfl rfl) (fun a hF => ?_)
  refine vc_meet (l2 := ?lA1) hF [(12, .bool ((cmpB .lss (va.v.k) (0)) || (cmpB .gtr (va.v.k) (5)))), (0, .agg ([.int .i64 va.v.k, .int .i64 va.v.n, strV va.v.t, .slice va.sA va.v.s.length va.sC]).toArray), (1, .pointer (some ⟨b1, 0, none⟩)), (2, .int .i64 0)] (fun hJ1 => ?elA1) (fun a hF => ?flA1)
  case elA1 =>
    rcases tf (cmpB .lss (va.v.k) (0)) with hg1 | hg1
    · refine vc_yg hF rfl rfl rfl rfl (some_bool hg1) (by decide) _ (y_field rfl Tryz.underlying25 rfl sz22_v15 (by decide) rfl (rfl : (⟨_, 0 + _, none⟩ : Addr) = ⟨_, 0, none⟩)) (fun a hF => ?_)
      refine vc_yg hF rfl rfl rfl rfl (some_bool hg1) (by decide) _ (y_ld rfl hA3.q rfl 0 rfl rfl nr22_v15) (fun a hF => ?_)
      refine vc_yg hF rfl rfl rfl rfl (some_bool hg1) (by decide) _ (y_cmp rfl rfl rfl rfl rfl) (fun a hF => ?_)
      refine vc_y hF rfl rfl (by decide) _ (y_pickF hg1 rfl rfl rfl) (fun a hF => ?_)
      exact hJ1 _ ((hF.keep [12, 0, 1, 2] (F' := [(12, _), (0, _), (1, _), (2, _)]) rfl).bool (by rw [hg1]; rfl))
    · refine vc_skip hF rfl rfl rfl rfl rfl (ne_want hg1) (by decide) (fun a hF => ?_)
      refine vc_skip hF rfl rfl rfl rfl rfl (ne_want hg1) (by decide) (fun a hF => ?_)
      refine vc_skip hF rfl rfl rfl rfl rfl (ne_want hg1) (by decide) (fun a hF => ?_)
      refine vc_y hF rfl rfl (by decide) _ (y_pickT hg1 rfl rfl rfl) (fun a hF => ?_)
      exact hJ1 _ ((hF.keep [12, 0, 1, 2] (F' := [(12, _), (0, _), (1, _), (2, _)]) rfl).bool (by rw [hg1]; rfl))
  refine vc_nil ?_
  refine hK3 _ _ ?_; clear  hK3 K3
  rcases tf ((cmpB .lss (va.v.k) (0)) || (cmpB .gtr (va.v.k) (5))) with h1 | h1
  · refine vc_falseB hF rfl h1 ?_
    apply wp_skip
    refine hK2 _ _ ?_; clear  hK2 K2
    apply wp_seq_k; intro K4 hK4
    apply wp_seq_k; intro K5 hK5
    refine wp_region_lit ?_
    refine vc_y hF rfl rfl (by decide) _ (y_field rfl Tryz.underlying25 rfl sz3_v15 (by decide) rfl (rfl : (⟨_, 0 + _, none⟩ : Addr) = ⟨_, 1, none⟩)) (fun a hF => ?_)
    refine vc_y hF rfl rfl (by decide) _ (y_ld rfl hA3.q rfl 0 rfl rfl nr3_v15) (fun a hF => ?_)
    refine vc_y hF rfl rfl (by decide) _ (y_cmp rfl rfl rfl rfl rfl) (fun a hF => ?_)
    refine vc_y hF rfl rfl (by decide) _ (y_move rfl rfl) (fun a hF => ?_)
    refine vc_meet (l2 := ?lA2) hF [(30, .bool ((cmpB .neq (va.v.n) (0)) && (((cmpB .eql (va.v.k) (0)) || (cmpB .eql (va.v.k) (3))) || (cmpB .eql (va.v.k) (5))))), (0, .agg ([.int .i64 va.v.k, .int .i64 va.v.n, strV va.v.t, .slice va.sA va.v.s.length va.sC]).toArray), (1, .pointer (some ⟨b1, 0, none⟩)), (2, .int .i64 0), (12, .bool ((cmpB .lss (va.v.k) (0)) || (cmpB .gtr (va.v.k) (5))))] (fun hJ2 => ?elA2) (fun a hF => ?flA2)
    case elA2 =>
      rcases tf (cmpB .neq (va.v.n) (0)) with hg2 | hg2
      · refine vc_skip hF rfl rfl rfl rfl rfl (ne_want hg2) (by decide) (fun a hF => ?_)
        refine vc_skip hF rfl rfl rfl rfl rfl (ne_want hg2) (by decide) (fun a hF => ?_)
        refine vc_skip hF rfl rfl rfl rfl rfl (ne_want hg2) (by decide) (fun a hF => ?_)
        refine vc_skip hF rfl rfl rfl rfl rfl (ne_want hg2) (by decide) (fun a hF => ?_)
        refine vc_skipU hF rfl rfl rfl rfl rfl (by decide) (fun a hF => ?_)
        refine vc_skipU hF rfl rfl rfl rfl rfl (by decide) (fun a hF => ?_)
        refine vc_skipU hF rfl rfl rfl rfl rfl (by decide) (fun a hF => ?_)
        refine vc_skip hF rfl rfl rfl rfl rfl (ne_want hg2) (by decide) (fun a hF => ?_)
        refine vc_skip hF rfl rfl rfl rfl rfl (ne_want hg2) (by decide) (fun a hF => ?_)
        refine vc_skipU hF rfl rfl rfl rfl rfl (by decide) (fun a hF => ?_)
        refine vc_skipU hF rfl rfl rfl rfl rfl (by decide) (fun a hF => ?_)
        refine vc_skipU hF rfl rfl rfl rfl rfl (by decide) (fun a hF => ?_)
        refine vc_skip hF rfl rfl rfl rfl rfl (ne_want hg2) (by decide) (fun a hF => ?_)
        refine vc_y hF rfl rfl (by decide) _ (y_pickF hg2 rfl rfl rfl) (fun a hF => ?_)
        exact hJ2 _ ((hF.keep [30, 0, 1, 2, 12] (F' := [(30, _), (0, _), (1, _), (2, _), (12, _)]) rfl).bool (by rw [hg2]; rfl))
      · refine vc_yg hF rfl rfl rfl rfl (some_bool hg2) (by decide) _ (y_field rfl Tryz.underlying25 rfl sz22_v15 (by decide) rfl (rfl : (⟨_, 0 + _, none⟩ : Addr) = ⟨_, 0, none⟩)) (fun a hF => ?_)
        refine vc_yg hF rfl rfl rfl rfl (some_bool hg2) (by decide) _ (y_ld rfl hA3.q rfl 0 rfl rfl nr22_v15) (fun a hF => ?_)
        refine vc_yg hF rfl rfl rfl rfl (some_bool hg2) (by decide) _ (y_cmp rfl rfl rfl rfl rfl) (fun a hF => ?_)
        refine vc_yg hF rfl rfl rfl rfl (some_bool hg2) (by decide) _ (y_move rfl rfl) (fun a hF => ?_)
        refine vc_meet (l2 := ?lA3) hF [(24, .bool ((cmpB .eql (va.v.k) (0)) || (cmpB .eql (va.v.k) (3)))), (0, .agg ([.int .i64 va.v.k, .int .i64 va.v.n, strV va.v.t, .slice va.sA va.v.s.length va.sC]).toArray), (1, .pointer (some ⟨b1, 0, none⟩)), (2, .int .i64 0), (12, .bool ((cmpB .lss (va.v.k) (0)) || (cmpB .gtr (va.v.k) (5)))), (16, .bool (cmpB .neq (va.v.n) (0)))] (fun hJ3 => ?elA3) (fun a hF => ?flA3)
        case elA3 =>
          rcases tf (cmpB .eql (va.v.k) (0)) with hg3 | hg3
          · refine vc_yg hF rfl rfl rfl rfl (some_bool hg3) (by decide) _ (y_field rfl Tryz.underlying25 rfl sz22_v15 (by decide) rfl (rfl : (⟨_, 0 + _, none⟩ : Addr) = ⟨_, 0, none⟩)) (fun a hF => ?_)
            refine vc_yg hF rfl rfl rfl rfl (some_bool hg3) (by decide) _ (y_ld rfl hA3.q rfl 0 rfl rfl nr22_v15) (fun a hF => ?_)
            refine vc_yg hF rfl rfl rfl rfl (some_bool hg3) (by decide) _ (y_cmp rfl rfl rfl rfl rfl) (fun a hF => ?_)
            refine vc_yg hF rfl rfl rfl rfl (some_bool hg2) (by decide) _ (y_pickF hg3 rfl rfl rfl) (fun a hF => ?_)
            exact hJ3 _ ((hF.keep [24, 0, 1, 2, 12, 16] (F' := [(24, _), (0, _), (1, _), (2, _), (12, _), (16, _)]) rfl).bool (by rw [hg3]; rfl))
          · refine vc_skip hF rfl rfl rfl rfl rfl (ne_want hg3) (by decide) (fun a hF => ?_)
            refine vc_skip hF rfl rfl rfl rfl rfl (ne_want hg3) (by decide) (fun a hF => ?_)
            refine vc_skip hF rfl rfl rfl rfl rfl (ne_want hg3) (by decide) (fun a hF => ?_)
            refine vc_yg hF rfl rfl rfl rfl (some_bool hg2) (by decide) _ (y_pickT hg3 rfl rfl rfl) (fun a hF => ?_)
            exact hJ3 _ ((hF.keep [24, 0, 1, 2, 12, 16] (F' := [(24, _), (0, _), (1, _), (2, _), (12, _), (16, _)]) rfl).bool (by rw [hg3]; rfl))
        refine vc_yg hF rfl rfl rfl rfl (some_bool hg2) (by decide) _ (y_move rfl rfl) (fun a hF => ?_)
        refine vc_meet (l2 := ?lA4) hF [(29, .bool (((cmpB .eql (va.v.k) (0)) || (cmpB .eql (va.v.k) (3))) || (cmpB .eql (va.v.k) (5)))), (0, .agg ([.int .i64 va.v.k, .int .i64 va.v.n, strV va.v.t, .slice va.sA va.v.s.length va.sC]).toArray), (1, .pointer (some ⟨b1, 0, none⟩)), (2, .int .i64 0), (12, .bool ((cmpB .lss (va.v.k) (0)) || (cmpB .gtr (va.v.k) (5)))), (16, .bool (cmpB .neq (va.v.n) (0)))] (fun hJ4 => ?elA4) (fun a hF => ?flA4)
        case elA4 =>
          rcases tf ((cmpB .eql (va.v.k) (0)) || (cmpB .eql (va.v.k) (3))) with hg4 | hg4
          · refine vc_yg hF rfl rfl rfl rfl (some_bool hg4) (by decide) _ (y_field rfl Tryz.underlying25 rfl sz22_v15 (by decide) rfl (rfl : (⟨_, 0 + _, none⟩ : Addr) = ⟨_, 0, none⟩)) (fun a hF => ?_)
            refine vc_yg hF rfl rfl rfl rfl (some_bool hg4) (by decide) _ (y_ld rfl hA3.q rfl 0 rfl rfl nr22_v15) (fun a hF => ?_)
            refine vc_yg hF rfl rfl rfl rfl (some_bool hg4) (by decide) _ (y_cmp rfl rfl rfl rfl rfl) (fun a hF => ?_)
            refine vc_yg hF rfl rfl rfl rfl (some_bool hg2) (by decide) _ (y_pickF hg4 rfl rfl rfl) (fun a hF => ?_)
            exact hJ4 _ ((hF.keep [29, 0, 1, 2, 12, 16] (F' := [(29, _), (0, _), (1, _), (2, _), (12, _), (16, _)]) rfl).bool (by rw [hg4]; rfl))
          · refine vc_skip hF rfl rfl rfl rfl rfl (ne_want hg4) (by decide) (fun a hF => ?_)
            refine vc_skip hF rfl rfl rfl rfl rfl (ne_want hg4) (by decide) (fun a hF => ?_)
            refine vc_skip hF rfl rfl rfl rfl rfl (ne_want hg4) (by decide) (fun a hF => ?_)
            refine vc_yg hF rfl rfl rfl rfl (some_bool hg2) (by decide) _ (y_pickT hg4 rfl rfl rfl) (fun a hF => ?_)
            exact hJ4 _ ((hF.keep [29, 0, 1, 2, 12, 16] (F' := [(29, _), (0, _), (1, _), (2, _), (12, _), (16, _)]) rfl).bool (by rw [hg4]; rfl))
        refine vc_y hF rfl rfl (by decide) _ (y_pickT hg2 rfl rfl rfl) (fun a hF => ?_)
        exact hJ2 _ ((hF.keep [30, 0, 1, 2, 12] (F' := [(30, _), (0, _), (1, _), (2, _), (12, _)]) rfl).bool (by rw [hg2]; rfl))
    refine vc_y hF rfl rfl (by decide) _ (y_move rfl rfl) (fun a hF => ?_)
    refine vc_meet (l2 := ?lA5) hF [(40, .bool (((cmpB .neq (va.v.n) (0)) && (((cmpB .eql (va.v.k) (0)) || (cmpB .eql (va.v.k) (3))) || (cmpB .eql (va.v.k) (5)))) || ((strB .neq va.v.t []) && (cmpB .neq (va.v.k) (3))))), (0, .agg ([.int .i64 va.v.k, .int .i64 va.v.n, strV va.v.t, .slice va.sA va.v.s.length va.sC]).toArray), (1, .pointer (some ⟨b1, 0, none⟩)), (2, .int .i64 0), (12, .bool ((cmpB .lss (va.v.k) (0)) || (cmpB .gtr (va.v.k) (5))))] (fun hJ5 => ?elA5) (fun a hF => ?flA5)
    case elA5 =>
      rcases tf ((cmpB .neq (va.v.n) (0)) && (((cmpB .eql (va.v.k) (0)) || (cmpB .eql (va.v.k) (3))) || (cmpB .eql (va.v.k) (5)))) with hg5 | hg5
      · refine vc_yg hF rfl rfl rfl rfl (some_bool hg5) (by decide) _ (y_field rfl Tryz.underlying25 rfl sz9_v15 (by decide) rfl (rfl : (⟨_, 0 + _, none⟩ : Addr) = ⟨_, 2, none⟩)) (fun a hF => ?_)
        refine vc_yg hF rfl rfl rfl rfl (some_bool hg5) (by decide) _ (y_ld rfl hA3.q rfl 0 rfl rfl nr9_v15) (fun a hF => ?_)
        refine vc_yg hF rfl rfl rfl rfl (some_bool hg5) (by decide) _ (y_cmpS rfl rfl rfl rfl rfl) (fun a hF => ?_)
        refine vc_yg hF rfl rfl rfl rfl (some_bool hg5) (by decide) _ (y_move rfl rfl) (fun a hF => ?_)
        refine vc_meet (l2 := ?lA6) hF [(39, .bool ((strB .neq va.v.t []) && (cmpB .neq (va.v.k) (3)))), (0, .agg ([.int .i64 va.v.k, .int .i64 va.v.n, strV va.v.t, .slice va.sA va.v.s.length va.sC]).toArray), (1, .pointer (some ⟨b1, 0, none⟩)), (2, .int .i64 0), (12, .bool ((cmpB .lss (va.v.k) (0)) || (cmpB .gtr (va.v.k) (5)))), (31, .bool ((cmpB .neq (va.v.n) (0)) && (((cmpB .eql (va.v.k) (0)) || (cmpB .eql (va.v.k) (3))) || (cmpB .eql (va.v.k) (5)))))] (fun hJ6 => ?elA6) (fun a hF => ?flA6)
        case elA6 =>
          rcases tf (strB .neq va.v.t []) with hg6 | hg6
          · refine vc_skip hF rfl rfl rfl rfl rfl (ne_want hg6) (by decide) (fun a hF => ?_)
            refine vc_skip hF rfl rfl rfl rfl rfl (ne_want hg6) (by decide) (fun a hF => ?_)
            refine vc_skip hF rfl rfl rfl rfl rfl (ne_want hg6) (by decide) (fun a hF => ?_)
            refine vc_yg hF rfl rfl rfl rfl (some_bool hg5) (by decide) _ (y_pickF hg6 rfl rfl rfl) (fun a hF => ?_)
            exact hJ6 _ ((hF.keep [39, 0, 1, 2, 12, 31] (F' := [(39, _), (0, _), (1, _), (2, _), (12, _), (31, _)]) rfl).bool (by rw [hg6]; rfl))
          · refine vc_yg hF rfl rfl rfl rfl (some_bool hg6) (by decide) _ (y_field rfl Tryz.underlying25 rfl sz22_v15 (by decide) rfl (rfl : (⟨_, 0 + _, none⟩ : Addr) = ⟨_, 0, none⟩)) (fun a hF => ?_)
            refine vc_yg hF rfl rfl rfl rfl (some_bool hg6) (by decide) _ (y_ld rfl hA3.q rfl 0 rfl rfl nr22_v15) (fun a hF => ?_)
            refine vc_yg hF rfl rfl rfl rfl (some_bool hg6) (by decide) _ (y_cmp rfl rfl rfl rfl rfl) (fun a hF => ?_)
            refine vc_yg hF rfl rfl rfl rfl (some_bool hg5) (by decide) _ (y_pickT hg6 rfl rfl rfl) (fun a hF => ?_)
            exact hJ6 _ ((hF.keep [39, 0, 1, 2, 12, 31] (F' := [(39, _), (0, _), (1, _), (2, _), (12, _), (31, _)]) rfl).bool (by rw [hg6]; rfl))
        refine vc_y hF rfl rfl (by decide) _ (y_pickF hg5 rfl rfl rfl) (fun a hF => ?_)
        exact hJ5 _ ((hF.keep [40, 0, 1, 2, 12] (F' := [(40, _), (0, _), (1, _), (2, _), (12, _)]) rfl).bool (by rw [hg5]; rfl))
      · refine vc_skip hF rfl rfl rfl rfl rfl (ne_want hg5) (by decide) (fun a hF => ?_)
        refine vc_skip hF rfl rfl rfl rfl rfl (ne_want hg5) (by decide) (fun a hF => ?_)
        refine vc_skip hF rfl rfl rfl rfl rfl (ne_want hg5) (by decide) (fun a hF => ?_)
        refine vc_skip hF rfl rfl rfl rfl rfl (ne_want hg5) (by decide) (fun a hF => ?_)
        refine vc_skipU hF rfl rfl rfl rfl rfl (by decide) (fun a hF => ?_)
        refine vc_skipU hF rfl rfl rfl rfl rfl (by decide) (fun a hF => ?_)
        refine vc_skipU hF rfl rfl rfl rfl rfl (by decide) (fun a hF => ?_)
        refine vc_skip hF rfl rfl rfl rfl rfl (ne_want hg5) (by decide) (fun a hF => ?_)
        refine vc_y hF rfl rfl (by decide) _ (y_pickT hg5 rfl rfl rfl) (fun a hF => ?_)
        exact hJ5 _ ((hF.keep [40, 0, 1, 2, 12] (F' := [(40, _), (0, _), (1, _), (2, _), (12, _)]) rfl).bool (by rw [hg5]; rfl))
    refine vc_y hF rfl rfl (by decide) _ (y_move rfl rfl) (fun a hF => ?_)
    refine vc_meet (l2 := ?lA7) hF [(51, .bool ((((cmpB .neq (va.v.n) (0)) && (((cmpB .eql (va.v.k) (0)) || (cmpB .eql (va.v.k) (3))) || (cmpB .eql (va.v.k) (5)))) || ((strB .neq va.v.t []) && (cmpB .neq (va.v.k) (3)))) || ((cmpB .gtr (va.v.s.length) (0)) && (cmpB .neq (va.v.k) (5))))), (0, .agg ([.int .i64 va.v.k, .int .i64 va.v.n, strV va.v.t, .slice va.sA va.v.s.length va.sC]).toArray), (1, .pointer (some ⟨b1, 0, none⟩)), (2, .int .i64 0), (12, .bool ((cmpB .lss (va.v.k) (0)) || (cmpB .gtr (va.v.k) (5))))] (fun hJ7 => ?elA7) (fun a hF => ?flA7)
    case elA7 =>
      rcases tf (((cmpB .neq (va.v.n) (0)) && (((cmpB .eql (va.v.k) (0)) || (cmpB .eql (va.v.k) (3))) || (cmpB .eql (va.v.k) (5)))) || ((strB .neq va.v.t []) && (cmpB .neq (va.v.k) (3)))) with hg7 | hg7
      · refine vc_yg hF rfl rfl rfl rfl (some_bool hg7) (by decide) _ (y_field rfl Tryz.underlying25 rfl sz23_v15 (by decide) rfl (rfl : (⟨_, 0 + _, none⟩ : Addr) = ⟨_, 3, none⟩)) (fun a hF => ?_)
        refine vc_yg hF rfl rfl rfl rfl (some_bool hg7) (by decide) _ (y_ld rfl hA3.q rfl 0 rfl rfl nr23_v15) (fun a hF => ?_)
        refine vc_yg hF rfl rfl rfl rfl (some_bool hg7) (by decide) _ (y_lenSl rfl Tryz.underlying23 rfl rfl) (fun a hF => ?_)
        refine vc_yg hF rfl rfl rfl rfl (some_bool hg7) (by decide) _ (y_cmp rfl rfl rfl rfl rfl) (fun a hF => ?_)
        refine vc_yg hF rfl rfl rfl rfl (some_bool hg7) (by decide) _ (y_move rfl rfl) (fun a hF => ?_)
        refine vc_meet (l2 := ?lA8) hF [(50, .bool ((cmpB .gtr (va.v.s.length) (0)) && (cmpB .neq (va.v.k) (5)))), (0, .agg ([.int .i64 va.v.k, .int .i64 va.v.n, strV va.v.t, .slice va.sA va.v.s.length va.sC]).toArray), (1, .pointer (some ⟨b1, 0, none⟩)), (2, .int .i64 0), (12, .bool ((cmpB .lss (va.v.k) (0)) || (cmpB .gtr (va.v.k) (5)))), (41, .bool (((cmpB .neq (va.v.n) (0)) && (((cmpB .eql (va.v.k) (0)) || (cmpB .eql (va.v.k) (3))) || (cmpB .eql (va.v.k) (5)))) || ((strB .neq va.v.t []) && (cmpB .neq (va.v.k) (3)))))] (fun hJ8 => ?elA8) (fun a hF => ?flA8)
        case elA8 =>
          rcases tf (cmpB .gtr (va.v.s.length) (0)) with hg8 | hg8
          · refine vc_skip hF rfl rfl rfl rfl rfl (ne_want hg8) (by decide) (fun a hF => ?_)
            refine vc_skip hF rfl rfl rfl rfl rfl (ne_want hg8) (by decide) (fun a hF => ?_)
            refine vc_skip hF rfl rfl rfl rfl rfl (ne_want hg8) (by decide) (fun a hF => ?_)
            refine vc_yg hF rfl rfl rfl rfl (some_bool hg7) (by decide) _ (y_pickF hg8 rfl rfl rfl) (fun a hF => ?_)
            exact hJ8 _ ((hF.keep [50, 0, 1, 2, 12, 41] (F' := [(50, _), (0, _), (1, _), (2, _), (12, _), (41, _)]) rfl).bool (by rw [hg8]; rfl))
          · refine vc_yg hF rfl rfl rfl rfl (some_bool hg8) (by decide) _ (y_field rfl Tryz.underlying25 rfl sz22_v15 (by decide) rfl (rfl : (⟨_, 0 + _, none⟩ : Addr) = ⟨_, 0, none⟩)) (fun a hF => ?_)
            refine vc_yg hF rfl rfl rfl rfl (some_bool hg8) (by decide) _ (y_ld rfl hA3.q rfl 0 rfl rfl nr22_v15) (fun a hF => ?_)
            refine vc_yg hF rfl rfl rfl rfl (some_bool hg8) (by decide) _ (y_cmp rfl rfl rfl rfl rfl) (fun a hF => ?_)
            refine vc_yg hF rfl rfl rfl rfl (some_bool hg7) (by decide) _ (y_pickT hg8 rfl rfl rfl) (fun a hF => ?_)
            exact hJ8 _ ((hF.keep [50, 0, 1, 2, 12, 41] (F' := [(50, _), (0, _), (1, _), (2, _), (12, _), (41, _)]) rfl).bool (by rw [hg8]; rfl))
        refine vc_y hF rfl rfl (by decide) _ (y_pickF hg7 rfl rfl rfl) (fun a hF => ?_)
        exact hJ7 _ ((hF.keep [51, 0, 1, 2, 12] (F' := [(51, _), (0, _), (1, _), (2, _), (12, _)]) rfl).bool (by rw [hg7]; rfl))
      · refine vc_skip hF rfl rfl rfl rfl rfl (ne_want hg7) (by decide) (fun a hF => ?_)
        refine vc_skip hF rfl rfl rfl rfl rfl (ne_want hg7) (by decide) (fun a hF => ?_)
        refine vc_skip hF rfl rfl rfl rfl rfl (ne_want hg7) (by decide) (fun a hF => ?_)
        refine vc_skip hF rfl rfl rfl rfl rfl (ne_want hg7) (by decide) (fun a hF => ?_)
        refine vc_skip hF rfl rfl rfl rfl rfl (ne_want hg7) (by decide) (fun a hF => ?_)
        refine vc_skipU hF rfl rfl rfl rfl rfl (by decide) (fun a hF => ?_)
        refine vc_skipU hF rfl rfl rfl rfl rfl (by decide) (fun a hF => ?_)
        refine vc_skipU hF rfl rfl rfl rfl rfl (by decide) (fun a hF => ?_)
        refine vc_skip hF rfl rfl rfl rfl rfl (ne_want hg7) (by decide) (fun a hF => ?_)
        refine vc_y hF rfl rfl (by decide) _ (y_pickT hg7 rfl rfl rfl) (fun a hF => ?_)
        exact hJ7 _ ((hF.keep [51, 0, 1, 2, 12] (F' := [(51, _), (0, _), (1, _), (2, _), (12, _)]) rfl).bool (by rw [hg7]; rfl))
    refine vc_nil ?_
    refine hK5 _ _ ?_; clear  hK5 K5
    rcases tf ((((cmpB .neq (va.v.n) (0)) && (((cmpB .eql (va.v.k) (0)) || (cmpB .eql (va.v.k) (3))) || (cmpB .eql (va.v.k) (5)))) || ((strB .neq va.v.t []) && (cmpB .neq (va.v.k) (3)))) || ((cmpB .gtr (va.v.s.length) (0)) && (cmpB .neq (va.v.k) (5)))) with h2 | h2
    · refine vc_falseB hF rfl h2 ?_
      apply wp_skip
      refine hK4 _ _ ?_; clear  hK4 K4
      apply wp_seq_k; intro K6 hK6
      apply wp_seq_k; intro K7 hK7
      refine wp_region_lit ?_
      refine vc_y hF rfl rfl (by decide) _ (y_field rfl Tryz.underlying25 rfl sz22_v15 (by decide) rfl (rfl : (⟨_, 0 + _, none⟩ : Addr) = ⟨_, 0, none⟩)) (fun a hF => ?_)
      refine vc_y hF rfl rfl (by decide) _ (y_ld rfl hA3.q rfl 0 rfl rfl nr22_v15) (fun a hF => ?_)
      refine vc_y hF rfl rfl (by decide) _ (y_cmp rfl rfl rfl rfl rfl) (fun a hF => ?_)
      refine vc_y hF rfl rfl (by decide) _ (y_move rfl rfl) (fun a hF => ?_)
      refine vc_meet (l2 := ?lA9) hF [(59, .bool ((cmpB .eql (va.v.k) (2)) && (cmpB .neq (va.v.n) (0)))), (0, .agg ([.int .i64 va.v.k, .int .i64 va.v.n, strV va.v.t, .slice va.sA va.v.s.length va.sC]).toArray), (1, .pointer (some ⟨b1, 0, none⟩)), (2, .int .i64 0), (12, .bool ((cmpB .lss (va.v.k) (0)) || (cmpB .gtr (va.v.k) (5)))), (51, .bool ((((cmpB .neq (va.v.n) (0)) && (((cmpB .eql (va.v.k) (0)) || (cmpB .eql (va.v.k) (3))) || (cmpB .eql (va.v.k) (5)))) || ((strB .neq va.v.t []) && (cmpB .neq (va.v.k) (3)))) || ((cmpB .gtr (va.v.s.length) (0)) && (cmpB .neq (va.v.k) (5)))))] (fun hJ9 => ?elA9) (fun a hF => ?flA9)
      case elA9 =>
        rcases tf (cmpB .eql (va.v.k) (2)) with hg9 | hg9
        · refine vc_skip hF rfl rfl rfl rfl rfl (ne_want hg9) (by decide) (fun a hF => ?_)
          refine vc_skip hF rfl rfl rfl rfl rfl (ne_want hg9) (by decide) (fun a hF => ?_)
          refine vc_skip hF rfl rfl rfl rfl rfl (ne_want hg9) (by decide) (fun a hF => ?_)
          refine vc_y hF rfl rfl (by decide) _ (y_pickF hg9 rfl rfl rfl) (fun a hF => ?_)
          exact hJ9 _ ((hF.keep [59, 0, 1, 2, 12, 51] (F' := [(59, _), (0, _), (1, _), (2, _), (12, _), (51, _)]) rfl).bool (by rw [hg9]; rfl))
        · refine vc_yg hF rfl rfl rfl rfl (some_bool hg9) (by decide) _ (y_field rfl Tryz.underlying25 rfl sz3_v15 (by decide) rfl (rfl : (⟨_, 0 + _, none⟩ : Addr) = ⟨_, 1, none⟩)) (fun a hF => ?_)
          refine vc_yg hF rfl rfl rfl rfl (some_bool hg9) (by decide) _ (y_ld rfl hA3.q rfl 0 rfl rfl nr3_v15) (fun a hF => ?_)
          refine vc_yg hF rfl rfl rfl rfl (some_bool hg9) (by decide) _ (y_cmp rfl rfl rfl rfl rfl) (fun a hF => ?_)
          refine vc_y hF rfl rfl (by decide) _ (y_pickT hg9 rfl rfl rfl) (fun a hF => ?_)
          exact hJ9 _ ((hF.keep [59, 0, 1, 2, 12, 51] (F' := [(59, _), (0, _), (1, _), (2, _), (12, _), (51, _)]) rfl).bool (by rw [hg9]; rfl))
      refine vc_y hF rfl rfl (by decide) _ (y_move rfl rfl) (fun a hF => ?_)
      refine vc_meet (l2 := ?lA10) hF [(64, .bool (((cmpB .eql (va.v.k) (2)) && (cmpB .neq (va.v.n) (0))) && (cmpB .neq (va.v.n) (1)))), (0, .agg ([.int .i64 va.v.k, .int .i64 va.v.n, strV va.v.t, .slice va.sA va.v.s.length va.sC]).toArray), (1, .pointer (some ⟨b1, 0, none⟩)), (2, .int .i64 0), (12, .bool ((cmpB .lss (va.v.k) (0)) || (cmpB .gtr (va.v.k) (5)))), (51, .bool ((((cmpB .neq (va.v.n) (0)) && (((cmpB .eql (va.v.k) (0)) || (cmpB .eql (va.v.k) (3))) || (cmpB .eql (va.v.k) (5)))) || ((strB .neq va.v.t []) && (cmpB .neq (va.v.k) (3)))) || ((cmpB .gtr (va.v.s.length) (0)) && (cmpB .neq (va.v.k) (5)))))] (fun hJ10 => ?elA10) (fun a hF => ?flA10)
      case elA10 =>
        rcases tf ((cmpB .eql (va.v.k) (2)) && (cmpB .neq (va.v.n) (0))) with hg10 | hg10
        · refine vc_skip hF rfl rfl rfl rfl rfl (ne_want hg10) (by decide) (fun a hF => ?_)
          refine vc_skip hF rfl rfl rfl rfl rfl (ne_want hg10) (by decide) (fun a hF => ?_)
          refine vc_skip hF rfl rfl rfl rfl rfl (ne_want hg10) (by decide) (fun a hF => ?_)
          refine vc_y hF rfl rfl (by decide) _ (y_pickF hg10 rfl rfl rfl) (fun a hF => ?_)
          exact hJ10 _ ((hF.keep [64, 0, 1, 2, 12, 51] (F' := [(64, _), (0, _), (1, _), (2, _), (12, _), (51, _)]) rfl).bool (by rw [hg10]; rfl))
        · refine vc_yg hF rfl rfl rfl rfl (some_bool hg10) (by decide) _ (y_field rfl Tryz.underlying25 rfl sz3_v15 (by decide) rfl (rfl : (⟨_, 0 + _, none⟩ : Addr) = ⟨_, 1, none⟩)) (fun a hF => ?_)
          refine vc_yg hF rfl rfl rfl rfl (some_bool hg10) (by decide) _ (y_ld rfl hA3.q rfl 0 rfl rfl nr3_v15) (fun a hF => ?_)
          refine vc_yg hF rfl rfl rfl rfl (some_bool hg10) (by decide) _ (y_cmp rfl rfl rfl rfl rfl) (fun a hF => ?_)
          refine vc_y hF rfl rfl (by decide) _ (y_pickT hg10 rfl rfl rfl) (fun a hF => ?_)
          exact hJ10 _ ((hF.keep [64, 0, 1, 2, 12, 51] (F' := [(64, _), (0, _), (1, _), (2, _), (12, _), (51, _)]) rfl).bool (by rw [hg10]; rfl))
      refine vc_nil ?_
      refine hK7 _ _ ?_; clear  hK7 K7
      rcases tf (((cmpB .eql (va.v.k) (2)) && (cmpB .neq (va.v.n) (0))) && (cmpB .neq (va.v.n) (1))) with h3 | h3
      · refine vc_falseB hF rfl h3 ?_
        obtain ⟨hk, hb, hcn⟩ := rr_head h1 h2 h3
        apply wp_skip
        refine hK6 _ _ ?_; clear  hK6 K6
        apply wp_seq_k; intro K8 hK8
        apply wp_seq_k; intro K9 hK9
        refine wp_region_lit ?_
        refine vc_y hF rfl rfl (by decide) _ (y_assign rfl rfl) (fun a hF => ?_)
        refine vc_nil ?_
        refine hK9 _ _ ?_; clear  hK9 K9
        apply wp_block
        refine vc_loop (G := Nat) (fun i a x => 1 ≤ i ∧ (i = 1 ∨ i ≤ va.v.s.length) ∧ risesTo va.v.s i = true ∧ Fr 120 [(3, .int .i64 (i : Int)), (1, .pointer (some ⟨b1, 0, none⟩))] a ∧ Hp w0 ([row b1 25 [.int .i64 va.v.k, .int .i64 va.v.n, strV va.v.t, .slice va.sA va.v.s.length va.sC]] :: R) x) (fun i => va.v.s.length - i) 1 (⟨Nat.le_refl _, .inl rfl, rfl, hF.keep [3, 1] rfl, hA3⟩) ?_
        clear hF
        rintro i a w5 ⟨hi1, hi, hr, hF, hA4⟩
        apply wp_seq_k; intro K10 hK10
        apply wp_seq_k; intro K11 hK11
        refine wp_region_lit ?_
        refine vc_y hF rfl rfl (by decide) _ (y_move rfl rfl) (fun a hF => ?_)
        refine vc_y hF rfl rfl (by decide) _ (y_field rfl Tryz.underlying25 rfl sz23_v15 (by decide) rfl (rfl : (⟨_, 0 + _, none⟩ : Addr) = ⟨_, 3, none⟩)) (fun a hF => ?_)
        refine vc_y hF rfl rfl (by decide) _ (y_ld rfl hA4.q rfl 0 rfl rfl nr23_v15) (fun a hF => ?_)
        refine vc_y hF rfl rfl (by decide) _ (y_lenSl rfl Tryz.underlying23 rfl rfl) (fun a hF => ?_)
        refine vc_y hF rfl rfl (by decide) _ (y_cmp rfl rfl rfl rfl rfl) (fun a hF => ?_)
        refine vc_nil ?_
        refine hK11 _ _ ?_; clear  hK11 K11
        by_cases hlt : i < va.v.s.length
        · refine vc_trueB hF rfl (lss_t (by omega)) ?_
          obtain ⟨q, hp⟩ : ∃ q, va.v.s[i]? = some q := ⟨_, List.getElem?_eq_getElem hlt⟩
          obtain ⟨q0, hp0⟩ : ∃ q, va.v.s[i - 1]? = some q := ⟨_, List.getElem?_eq_getElem (by omega)⟩
          obtain ⟨b, o, hsA, hc⟩ := hV.rc.ne (i := i) (by rw [List.length_map]; exact hlt)
          rw [hsA] at hA4
          apply wp_skip
          refine hK10 _ _ ?_; clear  hK10 K10
          apply wp_seq_k; intro K12 hK12
          apply wp_block
          apply wp_seq_k; intro K13 hK13
          refine wp_region_plan 12 [12] [0,1,2,3,4,5,6,7,8,9,10,11,12] (fun x => Hq w0 ([row b1 25 [.int .i64 va.v.k, .int .i64 va.v.n, strV va.v.t, .slice (some ⟨b, o, none⟩) va.v.s.length va.sC]] :: R) x) (by kernel_rfl) (by kernel_rfl) (Hq.drew (Hp.qp [[row b1 25 [.int .i64 va.v.k, .int .i64 va.v.n, strV va.v.t, .slice (some ⟨b, o, none⟩) va.v.s.length va.sC]]] R [0] hA4)) ?_
          have hA6 := Hl.drew hA4
          refine vp_y hF rfl rfl rfl rfl (by decide) _ (fun x hx => y_field rfl Tryz.underlying25 rfl sz23_v15 (by decide) rfl (rfl : (⟨_, 0 + _, none⟩ : Addr) = ⟨_, 3, none⟩)) (fun a hF => ?_)
          refine vp_y hF rfl rfl rfl rfl (by decide) _ (fun x hx => y_ld rfl hx rfl 0 rfl rfl nr23_v15) (fun a hF => ?_)
          refine vp_y hF rfl rfl rfl rfl (by decide) _ (fun x hx => y_move rfl rfl) (fun a hF => ?_)
          refine vp_y hF rfl rfl rfl rfl (by decide) _ (fun x hx => y_sub rfl rfl rfl (IntWalk.i64_in _ (by omega))) (fun a hF => ?_)
          refine vp_y hF rfl rfl rfl rfl (by decide) _ (fun x hx => y_ixSl rfl Tryz.underlying23 sz9_v15 rfl rfl (i - 1) (by omega) (by omega) (ad2 _ _ _)) (fun a hF => ?_)
          refine vp_y hF rfl rfl rfl rfl (by decide) _ (fun x hx => y_ldC (u := strV q0) rfl (Hq.sub hx (List.Subset.trans hG ((subC (sub0))))) rfl hc (i - 1) (by rw [List.length_map]; omega) rfl (by rw [List.getElem?_map, hp0]; rfl) nr9_v15) (fun a hF => ?_)
          refine vp_y hF rfl rfl rfl rfl (by decide) _ (fun x hx => y_field rfl Tryz.underlying25 rfl sz23_v15 (by decide) rfl (rfl : (⟨_, 0 + _, none⟩ : Addr) = ⟨_, 3, none⟩)) (fun a hF => ?_)
          refine vp_y hF rfl rfl rfl rfl (by decide) _ (fun x hx => y_ld rfl hx rfl 0 rfl rfl nr23_v15) (fun a hF => ?_)
          refine vp_y hF rfl rfl rfl rfl (by decide) _ (fun x hx => y_move rfl rfl) (fun a hF => ?_)
          refine vp_y hF rfl rfl rfl rfl (by decide) _ (fun x hx => y_ixSl rfl Tryz.underlying23 sz9_v15 rfl rfl i rfl (by omega) (ad2 _ _ _)) (fun a hF => ?_)
          refine vp_y hF rfl rfl rfl rfl (by decide) _ (fun x hx => y_ldC (u := strV q) rfl (Hq.sub hx (List.Subset.trans hG ((subC (sub0))))) rfl hc i (by rw [List.length_map]; omega) rfl (by rw [List.getElem?_map, hp]; rfl) nr9_v15) (fun a hF => ?_)
          refine vp_y hF rfl rfl rfl rfl (by decide) _ (fun x hx => y_cmpS rfl rfl rfl rfl rfl) (fun a hF => ?_)
          refine vp_ly hF rfl rfl rfl rfl (by decide) _ (y_not rfl rfl rfl) (fun h => absurd h (by decide)) (fun a hF => ?_)
          refine plan_end ?_
          refine hK13 _ _ ?_; clear  hK13 K13
          rcases tf (strB .geq q0 q) with hge | hge
          · refine vc_falseB hF rfl (by rw [lss_geq, hge]; rfl) ?_
            apply wp_skip
            refine hK12 _ _ ?_; clear  hK12 K12
            refine wp_region_lit ?_
            refine vc_y hF rfl rfl (by decide) _ (y_move rfl rfl) (fun a hF => ?_)
            refine vc_y hF rfl rfl (by decide) _ (y_add rfl rfl rfl (IntWalk.i64_in _ (by omega))) (fun a hF => ?_)
            refine vc_y hF rfl rfl (by decide) _ (y_assign rfl rfl) (fun a hF => ?_)
            refine vc_nil ?_
            rw [← hsA] at hA6
            exact ⟨i + 1, by omega, by omega, .inr (by omega), rises_up hi1 hp0 hp hr hge, hF.keep [3, 1] rfl, hA6⟩
          · refine vc_trueB hF rfl (by rw [lss_geq, hge]; rfl) ?_
            apply wp_seq_k; intro K14 hK14
            refine wp_region_lit ?_
            refine vc_y hF rfl rfl (by decide) _ (y_assign rfl rfl) (fun a hF => ?_)
            refine vc_nil ?_
            refine hK14 _ _ ?_; clear  hK14 K14
            apply wp_ret
            simp only [Exit.then, Exit.inBlock]
            refine vc_ret1 hF Tryz.results107 rfl ?_
            have hA7 : Hp w0 (R) w5.drew := Hp.sel [[row b1 25 [.int .i64 va.v.k, .int .i64 va.v.n, strV va.v.t, .slice (some ⟨b, o, none⟩) va.v.s.length va.sC]]] R [] [0] hA6 rfl
            exact ⟨by rw [rr_set hk hb (rises_no hi1 hlt hp0 hp hge)]; rfl, hA7⟩
        · refine vc_falseB hF rfl (lss_f (by omega)) ?_
          have hfo := rr_formed hk hb hcn (rises_end hi1 hi hlt hr)
          apply wp_exit
          refine hK8 _ _ ?_; clear hK10 K10 hK8 K8
          apply wp_seq_k; intro K15 hK15
          apply wp_seq_k; intro K16 hK16
          refine wp_region_lit ?_
          refine vc_y hF rfl rfl (by decide) _ (y_field rfl Tryz.underlying25 rfl sz22_v15 (by decide) rfl (rfl : (⟨_, 0 + _, none⟩ : Addr) = ⟨_, 0, none⟩)) (fun a hF => ?_)
          refine vc_y hF rfl rfl (by decide) _ (y_ld rfl hA4.q rfl 0 rfl rfl nr22_v15) (fun a hF => ?_)
          refine vc_y hF rfl rfl (by decide) _ (y_cmp rfl rfl rfl rfl rfl) (fun a hF => ?_)
          refine vc_y hF rfl rfl (by decide) _ (y_move rfl rfl) (fun a hF => ?_)
          refine vc_meet (l2 := ?lA11) hF [(97, .bool ((cmpB .eql (va.v.k) (4)) && ((cmpB .lss (va.v.n) (0)) || (cmpB .gtr (va.v.n) (4611686018427387904))))), (1, .pointer (some ⟨b1, 0, none⟩)), (3, .int .i64 (i : Int)), (65, .int .i64 (i : Int)), (66, .pointer (some ⟨b1, 3, none⟩)), (67, .slice va.sA va.v.s.length va.sC), (68, .int .i64 va.v.s.length), (69, .bool (cmpB .lss ((i : Int)) (va.v.s.length)))] (fun hJ11 => ?elA11) (fun a hF => ?flA11)
          case elA11 =>
            rcases tf (cmpB .eql (va.v.k) (4)) with hg11 | hg11
            · refine vc_skip hF rfl rfl rfl rfl rfl (ne_want hg11) (by decide) (fun a hF => ?_)
              refine vc_skip hF rfl rfl rfl rfl rfl (ne_want hg11) (by decide) (fun a hF => ?_)
              refine vc_skip hF rfl rfl rfl rfl rfl (ne_want hg11) (by decide) (fun a hF => ?_)
              refine vc_skip hF rfl rfl rfl rfl rfl (ne_want hg11) (by decide) (fun a hF => ?_)
              refine vc_skipU hF rfl rfl rfl rfl rfl (by decide) (fun a hF => ?_)
              refine vc_skipU hF rfl rfl rfl rfl rfl (by decide) (fun a hF => ?_)
              refine vc_skipU hF rfl rfl rfl rfl rfl (by decide) (fun a hF => ?_)
              refine vc_skip hF rfl rfl rfl rfl rfl (ne_want hg11) (by decide) (fun a hF => ?_)
              refine vc_y hF rfl rfl (by decide) _ (y_pickF hg11 rfl rfl rfl) (fun a hF => ?_)
              exact hJ11 _ ((hF.keep [97, 1, 3, 65, 66, 67, 68, 69] (F' := [(97, _), (1, _), (3, _), (65, _), (66, _), (67, _), (68, _), (69, _)]) rfl).bool (by rw [hg11]; rfl))
            · refine vc_yg hF rfl rfl rfl rfl (some_bool hg11) (by decide) _ (y_field rfl Tryz.underlying25 rfl sz3_v15 (by decide) rfl (rfl : (⟨_, 0 + _, none⟩ : Addr) = ⟨_, 1, none⟩)) (fun a hF => ?_)
              refine vc_yg hF rfl rfl rfl rfl (some_bool hg11) (by decide) _ (y_ld rfl hA4.q rfl 0 rfl rfl nr3_v15) (fun a hF => ?_)
              refine vc_yg hF rfl rfl rfl rfl (some_bool hg11) (by decide) _ (y_cmp rfl rfl rfl rfl rfl) (fun a hF => ?_)
              refine vc_yg hF rfl rfl rfl rfl (some_bool hg11) (by decide) _ (y_move rfl rfl) (fun a hF => ?_)
              refine vc_meet (l2 := ?lA12) hF [(96, .bool ((cmpB .lss (va.v.n) (0)) || (cmpB .gtr (va.v.n) (4611686018427387904)))), (1, .pointer (some ⟨b1, 0, none⟩)), (3, .int .i64 (i : Int)), (65, .int .i64 (i : Int)), (66, .pointer (some ⟨b1, 3, none⟩)), (67, .slice va.sA va.v.s.length va.sC), (68, .int .i64 va.v.s.length), (69, .bool (cmpB .lss ((i : Int)) (va.v.s.length))), (88, .bool (cmpB .eql (va.v.k) (4)))] (fun hJ12 => ?elA12) (fun a hF => ?flA12)
              case elA12 =>
                rcases tf (cmpB .lss (va.v.n) (0)) with hg12 | hg12
                · refine vc_yg hF rfl rfl rfl rfl (some_bool hg12) (by decide) _ (y_field rfl Tryz.underlying25 rfl sz3_v15 (by decide) rfl (rfl : (⟨_, 0 + _, none⟩ : Addr) = ⟨_, 1, none⟩)) (fun a hF => ?_)
                  refine vc_yg hF rfl rfl rfl rfl (some_bool hg12) (by decide) _ (y_ld rfl hA4.q rfl 0 rfl rfl nr3_v15) (fun a hF => ?_)
                  refine vc_yg hF rfl rfl rfl rfl (some_bool hg12) (by decide) _ (y_cmp rfl rfl rfl rfl rfl) (fun a hF => ?_)
                  refine vc_yg hF rfl rfl rfl rfl (some_bool hg11) (by decide) _ (y_pickF hg12 rfl rfl rfl) (fun a hF => ?_)
                  exact hJ12 _ ((hF.keep [96, 1, 3, 65, 66, 67, 68, 69, 88] (F' := [(96, _), (1, _), (3, _), (65, _), (66, _), (67, _), (68, _), (69, _), (88, _)]) rfl).bool (by rw [hg12]; rfl))
                · refine vc_skip hF rfl rfl rfl rfl rfl (ne_want hg12) (by decide) (fun a hF => ?_)
                  refine vc_skip hF rfl rfl rfl rfl rfl (ne_want hg12) (by decide) (fun a hF => ?_)
                  refine vc_skip hF rfl rfl rfl rfl rfl (ne_want hg12) (by decide) (fun a hF => ?_)
                  refine vc_yg hF rfl rfl rfl rfl (some_bool hg11) (by decide) _ (y_pickT hg12 rfl rfl rfl) (fun a hF => ?_)
                  exact hJ12 _ ((hF.keep [96, 1, 3, 65, 66, 67, 68, 69, 88] (F' := [(96, _), (1, _), (3, _), (65, _), (66, _), (67, _), (68, _), (69, _), (88, _)]) rfl).bool (by rw [hg12]; rfl))
              refine vc_y hF rfl rfl (by decide) _ (y_pickT hg11 rfl rfl rfl) (fun a hF => ?_)
              exact hJ11 _ ((hF.keep [97, 1, 3, 65, 66, 67, 68, 69] (F' := [(97, _), (1, _), (3, _), (65, _), (66, _), (67, _), (68, _), (69, _)]) rfl).bool (by rw [hg11]; rfl))
          refine vc_nil ?_
          refine hK16 _ _ ?_; clear  hK16 K16
          rcases tf ((cmpB .eql (va.v.k) (4)) && ((cmpB .lss (va.v.n) (0)) || (cmpB .gtr (va.v.n) (4611686018427387904)))) with h4 | h4
          · refine vc_falseB hF rfl h4 ?_
            apply wp_skip
            refine hK15 _ _ ?_; clear  hK15 K15
            apply wp_seq_k; intro K17 hK17
            apply wp_seq_k; intro K18 hK18
            refine wp_region_lit ?_
            refine vc_y hF rfl rfl (by decide) _ (y_field rfl Tryz.underlying25 rfl sz9_v15 (by decide) rfl (rfl : (⟨_, 0 + _, none⟩ : Addr) = ⟨_, 2, none⟩)) (fun a hF => ?_)
            refine vc_y hF rfl rfl (by decide) _ (y_ld rfl hA4.q rfl 0 rfl rfl nr9_v15) (fun a hF => ?_)
            refine vc_y hF rfl rfl (by decide) _ (y_lenStr (z := (va.v.t.length : Nat)) rfl Tryz.underlying9 rfl rfl) (fun a hF => ?_)
            refine vc_y hF rfl rfl (by decide) _ (y_cmp rfl rfl rfl rfl rfl) (fun a hF => ?_)
            refine vc_nil ?_
            refine hK18 _ _ ?_; clear  hK18 K18
            rcases tf (cmpB .gtr ((va.v.t.length : Nat)) (1024)) with h5 | h5
            · refine vc_falseB hF rfl h5 ?_
              apply wp_skip
              refine hK17 _ _ ?_; clear  hK17 K17
              apply wp_seq_k; intro K19 hK19
              apply wp_seq_k; intro K20 hK20
              refine wp_region_lit ?_
              refine vc_y hF rfl rfl (by decide) _ (y_assign rfl rfl) (fun a hF => ?_)
              refine vc_nil ?_
              refine hK20 _ _ ?_; clear  hK20 K20
              apply wp_block
              refine vc_loop (G := Nat) (fun i a x => i ≤ va.v.s.length ∧ (va.v.s.take i).any longT = false ∧ Fr 120 [(4, .int .i64 (i : Int)), (1, .pointer (some ⟨b1, 0, none⟩))] a ∧ Hp w0 ([row b1 25 [.int .i64 va.v.k, .int .i64 va.v.n, strV va.v.t, .slice va.sA va.v.s.length va.sC]] :: R) x) (fun i => va.v.s.length - i) 0 (⟨Nat.zero_le _, rfl, hF.keep [4, 1] rfl, hA4⟩) ?_
              clear hF
              rintro i a w9 ⟨hi, hall, hF, hA8⟩
              apply wp_seq_k; intro K21 hK21
              apply wp_seq_k; intro K22 hK22
              refine wp_region_lit ?_
              refine vc_y hF rfl rfl (by decide) _ (y_move rfl rfl) (fun a hF => ?_)
              refine vc_y hF rfl rfl (by decide) _ (y_field rfl Tryz.underlying25 rfl sz23_v15 (by decide) rfl (rfl : (⟨_, 0 + _, none⟩ : Addr) = ⟨_, 3, none⟩)) (fun a hF => ?_)
              refine vc_y hF rfl rfl (by decide) _ (y_ld rfl hA8.q rfl 0 rfl rfl nr23_v15) (fun a hF => ?_)
              refine vc_y hF rfl rfl (by decide) _ (y_lenSl rfl Tryz.underlying23 rfl rfl) (fun a hF => ?_)
              refine vc_y hF rfl rfl (by decide) _ (y_cmp rfl rfl rfl rfl rfl) (fun a hF => ?_)
              refine vc_nil ?_
              refine hK22 _ _ ?_; clear  hK22 K22
              by_cases hlt : i < va.v.s.length
              · refine vc_trueB hF rfl (lss_t (by omega)) ?_
                obtain ⟨q, hp⟩ : ∃ q, va.v.s[i]? = some q := ⟨_, List.getElem?_eq_getElem hlt⟩
                obtain ⟨b, o, hsA, hc⟩ := hV.rc.ne (i := i) (by rw [List.length_map]; exact hlt)
                rw [hsA] at hA8
                apply wp_skip
                refine hK21 _ _ ?_; clear  hK21 K21
                apply wp_seq_k; intro K23 hK23
                apply wp_block
                apply wp_seq_k; intro K24 hK24
                refine wp_region_lit ?_
                refine vc_y hF rfl rfl (by decide) _ (y_field rfl Tryz.underlying25 rfl sz23_v15 (by decide) rfl (rfl : (⟨_, 0 + _, none⟩ : Addr) = ⟨_, 3, none⟩)) (fun a hF => ?_)
                refine vc_y hF rfl rfl (by decide) _ (y_ld rfl hA8.q rfl 0 rfl rfl nr23_v15) (fun a hF => ?_)
                refine vc_y hF rfl rfl (by decide) _ (y_move rfl rfl) (fun a hF => ?_)
                refine vc_y hF rfl rfl (by decide) _ (y_ixSl rfl Tryz.underlying23 sz9_v15 rfl rfl i rfl hlt (ad2 _ _ _)) (fun a hF => ?_)
                refine vc_y hF rfl rfl (by decide) _ (y_ldC (u := strV q) rfl (Hq.sub hA8.q (List.Subset.trans hG ((subC (sub0))))) rfl hc i (by rw [List.length_map]; exact hlt) rfl (by rw [List.getElem?_map, hp]; rfl) nr9_v15) (fun a hF => ?_)
                refine vc_y hF rfl rfl (by decide) _ (y_lenStr (z := (q.length : Nat)) rfl Tryz.underlying9 rfl rfl) (fun a hF => ?_)
                refine vc_y hF rfl rfl (by decide) _ (y_cmp rfl rfl rfl rfl rfl) (fun a hF => ?_)
                refine vc_nil ?_
                refine hK24 _ _ ?_; clear  hK24 K24
                rcases tf (longT q) with hw | hw
                · refine vc_falseB hF rfl (long_f hw) ?_
                  apply wp_skip
                  refine hK23 _ _ ?_; clear  hK23 K23
                  refine wp_region_lit ?_
                  refine vc_y hF rfl rfl (by decide) _ (y_move rfl rfl) (fun a hF => ?_)
                  refine vc_y hF rfl rfl (by decide) _ (y_add rfl rfl rfl (IntWalk.i64_in _ (by omega))) (fun a hF => ?_)
                  refine vc_y hF rfl rfl (by decide) _ (y_assign rfl rfl) (fun a hF => ?_)
                  refine vc_nil ?_
                  rw [← hsA] at hA8
                  exact ⟨i + 1, by omega, by omega, any_take hp hall hw, hF.keep [4, 1] rfl, hA8⟩
                · refine vc_trueB hF rfl (long_t hw) ?_
                  apply wp_seq_k; intro K25 hK25
                  refine wp_region_lit ?_
                  refine vc_y hF rfl rfl (by decide) _ (y_assign rfl rfl) (fun a hF => ?_)
                  refine vc_nil ?_
                  refine hK25 _ _ ?_; clear  hK25 K25
                  apply wp_ret
                  simp only [Exit.then, Exit.inBlock]
                  refine vc_ret1 hF Tryz.results107 rfl ?_
                  have hA10 : Hp w0 (R) w9 := Hp.sel [[row b1 25 [.int .i64 va.v.k, .int .i64 va.v.n, strV va.v.t, .slice (some ⟨b, o, none⟩) va.v.s.length va.sC]]] R [] [0] hA8 rfl
                  exact ⟨by rw [rr_113b hfo h4 h5 hp hw]; rfl, hA10⟩
              · refine vc_falseB hF rfl (lss_f (by omega)) ?_
                obtain rfl : i = va.v.s.length := by omega
                rw [List.take_length] at hall
                apply wp_exit
                refine hK19 _ _ ?_; clear hK21 K21 hK19 K19
                apply wp_seq_k; intro K26 hK26
                apply wp_seq_k; intro K27 hK27
                refine wp_region_lit ?_
                refine vc_y hF rfl rfl (by decide) _ (y_field rfl Tryz.underlying25 rfl sz23_v15 (by decide) rfl (rfl : (⟨_, 0 + _, none⟩ : Addr) = ⟨_, 3, none⟩)) (fun a hF => ?_)
                refine vc_y hF rfl rfl (by decide) _ (y_ld rfl hA8.q rfl 0 rfl rfl nr23_v15) (fun a hF => ?_)
                refine vc_y hF rfl rfl (by decide) _ (y_lenSl rfl Tryz.underlying23 rfl rfl) (fun a hF => ?_)
                refine vc_y hF rfl rfl (by decide) _ (y_cmp rfl rfl rfl rfl rfl) (fun a hF => ?_)
                refine vc_nil ?_
                refine hK27 _ _ ?_; clear  hK27 K27
                rcases tf (cmpB .gtr (va.v.s.length) (64)) with h6 | h6
                · refine vc_falseB hF rfl h6 ?_
                  apply wp_skip
                  refine hK26 _ _ ?_; clear  hK26 K26
                  apply wp_seq_k; intro K28 hK28
                  refine wp_region_lit ?_
                  refine vc_y hF rfl rfl (by decide) _ (y_assign rfl rfl) (fun a hF => ?_)
                  refine vc_nil ?_
                  refine hK28 _ _ ?_; clear  hK28 K28
                  apply wp_ret
                  refine vc_ret1 hF Tryz.results107 rfl ?_
                  have hA11 : Hp w0 (R) w9 := Hp.sel [[row b1 25 [.int .i64 va.v.k, .int .i64 va.v.n, strV va.v.t, .slice va.sA va.v.s.length va.sC]]] R [] [0] hA8 rfl
                  exact ⟨by rw [rr_0 hfo h4 h5 hall h6]; rfl, hA11⟩
                · refine vc_trueB hF rfl h6 ?_
                  apply wp_seq_k; intro K29 hK29
                  refine wp_region_lit ?_
                  refine vc_y hF rfl rfl (by decide) _ (y_assign rfl rfl) (fun a hF => ?_)
                  refine vc_nil ?_
                  refine hK29 _ _ ?_; clear  hK29 K29
                  apply wp_ret
                  simp only [Exit.then]
                  refine vc_ret1 hF Tryz.results107 rfl ?_
                  have hA12 : Hp w0 (R) w9 := Hp.sel [[row b1 25 [.int .i64 va.v.k, .int .i64 va.v.n, strV va.v.t, .slice va.sA va.v.s.length va.sC]]] R [] [0] hA8 rfl
                  exact ⟨by rw [rr_114 hfo h4 h5 hall h6]; rfl, hA12⟩
            · refine vc_trueB hF rfl h5 ?_
              apply wp_seq_k; intro K30 hK30
              refine wp_region_lit ?_
              refine vc_y hF rfl rfl (by decide) _ (y_assign rfl rfl) (fun a hF => ?_)
              refine vc_nil ?_
              refine hK30 _ _ ?_; clear  hK30 K30
              apply wp_ret
              simp only [Exit.then]
              refine vc_ret1 hF Tryz.results107 rfl ?_
              have hA13 : Hp w0 (R) w5 := Hp.sel [[row b1 25 [.int .i64 va.v.k, .int .i64 va.v.n, strV va.v.t, .slice va.sA va.v.s.length va.sC]]] R [] [0] hA4 rfl
              exact ⟨by rw [rr_113 hfo h4 h5]; rfl, hA13⟩
          · refine vc_trueB hF rfl h4 ?_
            apply wp_seq_k; intro K31 hK31
            refine wp_region_lit ?_
            refine vc_y hF rfl rfl (by decide) _ (y_assign rfl rfl) (fun a hF => ?_)
            refine vc_nil ?_
            refine hK31 _ _ ?_; clear  hK31 K31
            apply wp_ret
            simp only [Exit.then]
            refine vc_ret1 hF Tryz.results107 rfl ?_
            have hA14 : Hp w0 (R) w5 := Hp.sel [[row b1 25 [.int .i64 va.v.k, .int .i64 va.v.n, strV va.v.t, .slice va.sA va.v.s.length va.sC]]] R [] [0] hA4 rfl
            exact ⟨by rw [rr_111 hfo h4]; rfl, hA14⟩
      · refine vc_trueB hF rfl h3 ?_
        apply wp_seq_k; intro K32 hK32
        refine wp_region_lit ?_
        refine vc_y hF rfl rfl (by decide) _ (y_assign rfl rfl) (fun a hF => ?_)
        refine vc_nil ?_
        refine hK32 _ _ ?_; clear  hK32 K32
        apply wp_ret
        simp only [Exit.then]
        refine vc_ret1 hF Tryz.results107 rfl ?_
        have hA15 : Hp w0 (R) w2 := Hp.sel [[row b1 25 [.int .i64 va.v.k, .int .i64 va.v.n, strV va.v.t, .slice va.sA va.v.s.length va.sC]]] R [] [0] hA3 rfl
        exact ⟨by rw [rr_bool h3]; rfl, hA15⟩
    · refine vc_trueB hF rfl h2 ?_
      apply wp_seq_k; intro K33 hK33
      refine wp_region_lit ?_
      refine vc_y hF rfl rfl (by decide) _ (y_assign rfl rfl) (fun a hF => ?_)
      refine vc_nil ?_
      refine hK33 _ _ ?_; clear  hK33 K33
      apply wp_ret
      simp only [Exit.then]
      refine vc_ret1 hF Tryz.results107 rfl ?_
      have hA16 : Hp w0 (R) w2 := Hp.sel [[row b1 25 [.int .i64 va.v.k, .int .i64 va.v.n, strV va.v.t, .slice va.sA va.v.s.length va.sC]]] R [] [0] hA3 rfl
      exact ⟨by rw [rr_form h2]; rfl, hA16⟩
  · refine vc_trueB hF rfl h1 ?_
    apply wp_seq_k; intro K34 hK34
    refine wp_region_lit ?_
    refine vc_y hF rfl rfl (by decide) _ (y_assign rfl rfl) (fun a hF => ?_)
    refine vc_nil ?_
    refine hK34 _ _ ?_; clear  hK34 K34
    apply wp_ret
    simp only [Exit.then]
    refine vc_ret1 hF Tryz.results107 rfl ?_
    have hA17 : Hp w0 (R) w2 := Hp.sel [[row b1 25 [.int .i64 va.v.k, .int .i64 va.v.n, strV va.v.t, .slice va.sA va.v.s.length va.sC]]] R [] [0] hA3 rfl
    exact ⟨by rw [rr_kind h1]; rfl, hA17⟩
end Go.Proofs.YtepbmdlgdaedpaaGreatDoor
