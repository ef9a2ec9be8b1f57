/- The walks of the reference's Mac, of Mac (keys of whatever length). -/
import Derived.Test.YtppmhlkonemebaaDoorLawSums
namespace Go.Proofs.YtppmhlkonemebaaDoor
open Go.RowKit Go.Dk

def macK (k : List UInt8) : List UInt8 := if 64 < k.length then sha k else k
theorem macK_len (k : List UInt8) : (macK k).length ≤ 64 := by unfold macK; split <;> (first | (rw [sha_length]; decide) | omega)
theorem fill_len (k : List UInt8) (h : k.length ≤ 64) : (fill64 k).length = 64 := by unfold fill64; rw [List.length_append, List.length_replicate]; omega
def kAt (k : List UInt8) (i : Nat) : UInt8 := if i < k.length then bAt k i else 0
theorem fill_at (k : List UInt8) (i : Nat) (hi : i < 64) : (fill64 k)[i]? = some (kAt k i) := by
  unfold fill64 kAt
  by_cases h : i < k.length
  · rw [List.getElem?_append_left h, if_pos h, bAt_lt h]
  · rw [List.getElem?_append_right (by omega), if_neg h, List.getElem?_replicate, if_pos (by omega)]
theorem fill_snoc (f : UInt8 → UInt8) (k : List UInt8) (i : Nat) (hi : i < 64) : dc (((fill64 k).map f).take i) ++ dc [f (kAt k i)] = dc (((fill64 k).map f).take (i + 1)) := by
  rw [← dc_append, List.take_add_one, List.getElem?_map, fill_at k i hi]; rfl
theorem fill_all (f : UInt8 → UInt8) (k : List UInt8) (hk : k.length ≤ 64) : ((fill64 k).map f).take 64 = (fill64 k).map f := by
  rw [List.take_of_length_le]; rw [List.length_map, fill_len k hk]; exact Nat.le_refl _
/-- what a key's slice gives, whatever rows of one's own there are -/
def KeyAt (w : World) (X : List Row) (K : Option Addr) (k : List UInt8) : Prop := ∀ (R Y : List Row) (x : World), At w ((R ++ X) ++ Y) x → (∀ r ∈ R, w.heap.size ≤ (r : Row).1) → (∀ r ∈ Y, w.heap.size ≤ (r : Row).1) → Bts x K k
theorem sz5_rm : (Tryd.prog.info? 5).map (·.size) = some 1 := by kernel_rfl
theorem cl19_rm : CallsTo Tryd.prog 19 := ⟨_, Tryd.func19, by kernel_rfl, by kernel_rfl⟩

set_option maxRecDepth 100000 in
set_option maxHeartbeats 2000000 in
theorem refmac_any (w : World) (KA M : Option Addr) (k m : List UInt8) (ck cm : Nat) (hBk : Bts w KA k) (hBm : Bts w M m) (hk : k.length < 140737488355000) (hm : m.length < 140737488355000) :
    Calls Tryd.prog 26 #[.slice KA k.length ck, .slice M m.length cm] w fun e w' => e = .returned (.agg (dc (macL (macK k) m)).toArray) ∧ At w [] w' := by
  have hA0 := At.refl w
  obtain ⟨Z0, hZ0⟩ : ∃ Z, Z = dc (List.replicate 32 0) := ⟨_, rfl⟩
  have hZl : Z0.length = 32 := by rw [hZ0]; rfl
  obtain ⟨k', hk'⟩ : ∃ k', k' = macK k := ⟨_, rfl⟩
  have hk64 : k'.length ≤ 64 := by rw [hk']; exact macK_len k
  obtain ⟨I, hI⟩ : ∃ I, I = (fill64 k').map xin := ⟨_, rfl⟩
  obtain ⟨O, hO⟩ : ∃ O, O = (fill64 k').map xout := ⟨_, rfl⟩
  have hIl : I.length = 64 := by rw [hI, List.length_map, fill_len k' hk64]
  have hOl : O.length = 64 := by rw [hO, List.length_map, fill_len k' hk64]
  refine vc_enter Tryd.func26 rfl Tryd.ntmps26 (Nat.le_of_ble_eq_true rfl) (fun a hF => ?_)
  apply wp_seq_k; intro K1 hK1
  refine wp_region_lit ?_
  refine vc_op rfl (fun K hK => ws_alloc hF rfl (by decide) rfl hA0 zero36 (fun b4 w1 a hb4 hF hA1 => hK _ _ ?_))
  clear hK K
  replace hA1 : At w [(b4, 36, Z0)] w1 := by rw [hZ0]; exact hA1
  refine vc_nil ?_
  refine hK1 _ _ ?_; clear  hK1 K1
  apply wp_seq_k; intro K2 hK2
  apply wp_seq_k; intro K3 hK3
  refine wp_region_lit ?_
  refine vc_y hF rfl rfl (by decide) _ (y_move rfl rfl) (fun a hF => ?_)
  refine vc_y hF rfl rfl (by decide) _ (y_lenSl rfl Tryd.underlying24 rfl rfl) (fun a hF => ?_)
  refine vc_y hF rfl rfl (by decide) _ (y_cmp rfl rfl rfl rfl rfl) (fun a hF => ?_)
  refine vc_nil ?_
  refine hK3 _ _ ?_; clear  hK3 K3
  have q4 : w.heap.size ≤ b4 := hb4
  have tail : ∀ (a : Act) (x : World) (X : List Row) (K' : Option Addr) (ck' : Nat), Fr 47 [(0, .slice K' k'.length ck'), (1, .slice M m.length cm), (4, .pointer (some ⟨b4, 0, none⟩))] a → At w ([(b4, 36, Z0)] ++ X) x → (∀ r ∈ X, w.heap.size ≤ (r : Row).1) → KeyAt w X K' k' → K2 a x := by
    clear hF
    intro a x X K' ck' hF hAx hX hKey
    refine hK2 _ _ ?_; clear  hK2 K2
    apply wp_seq_k; intro K4 hK4
    refine wp_region_lit ?_
    refine vc_y hF rfl rfl (by decide) _ (y_assign rfl rfl) (fun a hF => ?_)
    refine vc_y hF rfl rfl (by decide) _ (y_assign rfl rfl) (fun a hF => ?_)
    refine vc_nil ?_
    refine hK4 _ _ ?_; clear  hK4 K4
    apply wp_seq_k; intro K5 hK5
    apply wp_seq_k; intro K6 hK6
    refine wp_region_lit ?_
    refine vc_y hF rfl rfl (by decide) _ (y_assign rfl rfl) (fun a hF => ?_)
    refine vc_nil ?_
    refine hK6 _ _ ?_; clear  hK6 K6
    apply wp_block
    refine vc_loop (G := Nat) (fun i a x => i ≤ 64 ∧ ∃ (vi vo : Value) (Xi Xo : List Row), Fr 47 [(8, .int .i64 (i : Int)), (0, .slice K' k'.length ck'), (1, .slice M m.length cm), (4, .pointer (some ⟨b4, 0, none⟩)), (6, vi), (7, vo)] a ∧ Own w 5 1 Xi vi i (dc (I.take i)) ∧ Own w 5 1 Xo vo i (dc (O.take i)) ∧ At w ([(b4, 36, Z0)] ++ X ++ Xo ++ Xi) x) (fun i => 64 - i) 0 ⟨Nat.zero_le _, _, _, [], [], hF.keep [8, 0, 1, 4, 6, 7] rfl, Own.nil w 5 1, Own.nil w 5 1, by simpa using hAx⟩ ?_
    clear hF
    rintro i a wr ⟨hi, vi, vo, Xi, Xo, hF, hOi, hOo, hAr⟩
    by_cases hlt : i < 64
    · apply wp_seq_k; intro K7 hK7
      apply wp_seq_k; intro K8 hK8
      refine wp_region_lit ?_
      refine vc_y hF rfl rfl (by decide) _ (y_move rfl rfl) (fun a hF => ?_)
      refine vc_y hF rfl rfl (by decide) _ (y_cmp rfl rfl rfl rfl rfl) (fun a hF => ?_)
      refine vc_nil ?_
      refine hK8 _ _ ?_; clear  hK8 K8
      refine vc_trueB hF rfl (lss_t (by omega)) ?_
      apply wp_skip
      refine hK7 _ _ ?_; clear  hK7 K7
      apply wp_seq_k; intro K9 hK9
      apply wp_block
      apply wp_seq_k; intro K10 hK10
      refine wp_region_lit ?_
      refine vc_y hF rfl rfl (by decide) _ (y_assign rfl rfl) (fun a hF => ?_)
      refine vc_nil ?_
      refine hK10 _ _ ?_; clear  hK10 K10
      apply wp_seq_k; intro K11 hK11
      apply wp_seq_k; intro K12 hK12
      refine wp_region_lit ?_
      refine vc_y hF rfl rfl (by decide) _ (y_move rfl rfl) (fun a hF => ?_)
      refine vc_y hF rfl rfl (by decide) _ (y_move rfl rfl) (fun a hF => ?_)
      refine vc_y hF rfl rfl (by decide) _ (y_lenSl rfl Tryd.underlying24 rfl rfl) (fun a hF => ?_)
      refine vc_y hF rfl rfl (by decide) _ (y_cmp rfl rfl rfl rfl rfl) (fun a hF => ?_)
      refine vc_nil ?_
      refine hK12 _ _ ?_; clear  hK12 K12
      have tail2 : ∀ (a : Act) (x : World), Fr 47 [(8, .int .i64 (i : Int)), (0, .slice K' k'.length ck'), (1, .slice M m.length cm), (4, .pointer (some ⟨b4, 0, none⟩)), (6, vi), (7, vo), (9, .int .u8 ((kAt k' i).toNat : Int))] a → At w ([(b4, 36, Z0)] ++ X ++ Xo ++ Xi) x → K11 a x := by
        clear hF
        intro a x hF hAr
        refine hK11 _ _ ?_; clear  hK11 K11
        apply wp_seq_k; intro K13 hK13
        refine wp_region_lit ?_
        refine vc_y hF rfl rfl (by decide) _ (y_move rfl rfl) (fun a hF => ?_)
        refine vc_y hF rfl rfl (by decide) _ (y_move rfl rfl) (fun a hF => ?_)
        refine vc_y hF rfl rfl (by decide) _ (y_xor rfl rfl rfl (xor_in _)) (fun a hF => ?_)
        refine vc_op rfl (fun K hK => ws_byte1 hF rfl (by decide) rfl hAr (xin (kAt k' i)) rfl build_byte (fun g1 w5 a hg1 hF hA5 => hK _ _ ?_))
        clear hK K
        refine vc_op rfl (fun K hK => ws_own hF rfl (by decide) rfl ([(g1, 5, dc [xin (kAt k' i)]), (b4, 36, Z0)] ++ X ++ Xo) (X := Xi) hA5 hOi Tryd.underlying24 elem5 rfl rfl (Bts.src (l := [xin (kAt k' i)]) Tryd.underlying24 (Bts.row hA5 (k := 0) rfl rfl)) (by simp; omega) (by decide) (fun vi1 Xi1 w6 a hOi1 hF hA6 => hK _ _ ?_))
        clear hK K
        refine vc_y hF rfl rfl (by decide) _ (y_assign rfl rfl) (fun a hF => ?_)
        refine vc_nil ?_
        have hg1q : w.heap.size ≤ g1 := by have := hAr.size; omega
        refine hK13 _ _ ?_; clear  hK13 K13
        refine wp_region_lit ?_
        refine vc_y hF rfl rfl (by decide) _ (y_move rfl rfl) (fun a hF => ?_)
        refine vc_y hF rfl rfl (by decide) _ (y_move rfl rfl) (fun a hF => ?_)
        refine vc_y hF rfl rfl (by decide) _ (y_xor rfl rfl rfl (xor_out _)) (fun a hF => ?_)
        refine vc_op rfl (fun K hK => ws_byte1 hF rfl (by decide) rfl hA6 (xout (kAt k' i)) rfl build_byte (fun g2 w7 a hg2 hF hA7 => hK _ _ ?_))
        clear hK K
        refine vc_op rfl (fun K hK => ws_own hF rfl (by decide) rfl ([(g2, 5, dc [xout (kAt k' i)]), (g1, 5, dc [xin (kAt k' i)]), (b4, 36, Z0)] ++ X ++ Xi1) (X := Xo) (hA7.perm (perm_swap3 ([(g2, 5, dc [xout (kAt k' i)]), (g1, 5, dc [xin (kAt k' i)]), (b4, 36, Z0)] ++ X) Xo Xi1)) hOo Tryd.underlying24 elem5 rfl rfl (Bts.src (l := [xout (kAt k' i)]) Tryd.underlying24 (Bts.row hA7 (k := 0) rfl rfl)) (by simp; omega) (by decide) (fun vo1 Xo1 w8 a hOo1 hF hA8 => hK _ _ ?_))
        clear hK K
        refine vc_y hF rfl rfl (by decide) _ (y_assign rfl rfl) (fun a hF => ?_)
        refine vc_nil ?_
        have hg2q : w.heap.size ≤ g2 := by have := hA6.size; omega
        refine hK9 _ _ ?_; clear  hK9 K9
        refine wp_region_lit ?_
        refine vc_y hF rfl rfl (by decide) _ (y_move rfl rfl) (fun a hF => ?_)
        refine vc_y hF rfl rfl (by decide) _ (y_add rfl rfl rfl (IntWalk.i64_in _ (by omega))) (fun a hF => ?_)
        refine vc_y hF rfl rfl (by decide) _ (y_assign rfl rfl) (fun a hF => ?_)
        refine vc_nil ?_
        have hIs := fill_snoc xin k' i hlt
        have hOs := fill_snoc xout k' i hlt
        rw [← hI] at hIs
        rw [← hO] at hOs
        rw [hIs] at hOi1
        rw [hOs] at hOo1
        exact ⟨i + 1, by omega, by omega, _, _, _, _, hF.keep [8, 0, 1, 4, 6, 7] rfl, hOi1, hOo1, (hA8.drop (List.Sublist.append (List.Sublist.append (List.Sublist.append (.cons _ (.cons _ (.refl _))) (.refl X)) (.refl Xi1)) (.refl Xo1)) (fun r hr hlt' => by
          have := all_new (all_new (all_new (all_new (one_new hg2q) (all_new (one_new hg1q) (one_new q4))) hX) hOi1.new) hOo1.new r (by simpa using hr)
          omega)).perm (perm_swap3 _ _ _)⟩
      by_cases hlk : i < k'.length
      · have hB' := hKey [(b4, 36, Z0)] (Xo ++ Xi) wr (by rw [← List.append_assoc]; exact hAr) (one_new q4) (all_new hOo.new hOi.new)
        obtain ⟨bk, ok, rfl, _, hcell'⟩ := hB' (fun e => by rw [e] at hlk; exact absurd hlk (Nat.not_lt_zero _))
        have hcell := hcell' i hlk
        refine vc_trueB hF rfl (lss_t (by omega)) ?_
        refine wp_region_lit ?_
        refine vc_y hF rfl rfl (by decide) _ (y_move rfl rfl) (fun a hF => ?_)
        refine vc_y hF rfl rfl (by decide) _ (y_move rfl rfl) (fun a hF => ?_)
        refine vc_y hF rfl rfl (by decide) _ (y_ixSl rfl Tryd.underlying24 sz5_rm rfl rfl i rfl hlk (ad2 _ _ _)) (fun a hF => ?_)
        refine vc_y hF rfl rfl (by decide) _ (y_load1 rfl rfl hcell bk_no5) (fun a hF => ?_)
        refine vc_y hF rfl rfl (by decide) _ (y_assign rfl rfl) (fun a hF => ?_)
        refine vc_nil ?_
        refine tail2 _ _ ?_ hAr
        have e : kAt k' i = bAt k' i := by rw [kAt, if_pos hlk]
        rw [e]
        exact hF.keep [8, 0, 1, 4, 6, 7, 9] rfl
      · refine vc_falseB hF rfl (lss_f (by omega)) ?_
        apply wp_skip
        refine tail2 _ _ ?_ hAr
        have e : kAt k' i = 0 := by rw [kAt, if_neg hlk]
        rw [e]
        exact hF.keep [8, 0, 1, 4, 6, 7, 9] rfl
    · obtain rfl : i = 64 := by omega
      have hIa : I.take 64 = I := by rw [hI]; exact fill_all xin k' hk64
      have hOa : O.take 64 = O := by rw [hO]; exact fill_all xout k' hk64
      rw [hIa] at hOi
      rw [hOa] at hOo
      obtain ⟨D, hD⟩ : ∃ D, D = sha (I ++ m) := ⟨_, rfl⟩
      have hDl : D.length = 32 := by rw [hD, sha_length]
      apply wp_seq_k; intro K14 hK14
      apply wp_seq_k; intro K15 hK15
      refine wp_region_lit ?_
      refine vc_y hF rfl rfl (by decide) _ (y_move rfl rfl) (fun a hF => ?_)
      refine vc_y hF rfl rfl (by decide) _ (y_cmp rfl rfl rfl rfl rfl) (fun a hF => ?_)
      refine vc_nil ?_
      refine hK15 _ _ ?_; clear  hK15 K15
      refine vc_falseB hF rfl (lss_f (by omega)) ?_
      apply wp_exit
      refine hK5 _ _ ?_; clear hK14 K14 hK5 K5
      apply wp_seq_k; intro K16 hK16
      refine wp_region_lit ?_
      refine vc_y hF rfl rfl (by decide) _ (y_move rfl rfl) (fun a hF => ?_)
      refine vc_y hF rfl rfl (by decide) _ (y_move rfl rfl) (fun a hF => ?_)
      refine vc_op rfl (fun K hK => ws_own hF rfl (by decide) rfl ([(b4, 36, Z0)] ++ X ++ Xo) (X := Xi) hAr hOi Tryd.underlying24 elem5 rfl rfl (Bts.src Tryd.underlying24 (hBm.fresh hAr (all_new (all_new (all_new (one_new q4) hX) hOo.new) hOi.new))) (by omega) (by decide) (fun vi2 Xi2 w9 a hOi2 hF hA9 => hK _ _ ?_))
      clear hK K
      rw [← dc_append] at hOi2
      obtain ⟨_, Ai, ci, rfl, _, hBi⟩ := own_parts hOi2
      refine vc_op rfl (fun K hK => ws_call hF rfl (by decide) cl19_rm rfl rfl ?_)
      with_reducible refine (refsum_any w9 Ai (I ++ m) ci _ rfl (hBi _ _ hA9) (by rw [List.length_append]; omega)).mono ?_
      rintro e' w10 ⟨rfl, hc10⟩
      refine ⟨_, rfl, fun a hF => hK _ _ ?_⟩; clear hK K
      have hA10 : At w ([(b4, 36, Z0)] ++ X ++ Xo ++ Xi2) w10 := hA9.then0 hc10
      clear hc10
      rw [← hD] at hF
      refine vc_op rfl (fun K hK => ws_alloc hF rfl (by decide) rfl hA10 zero36 (fun b10 w11 a hb10 hF hA11 => hK _ _ ?_))
      clear hK K
      refine vc_op rfl (fun K hK => ws_storeAll hF rfl rfl hA11 rfl rfl 0 rfl (by rw [dc_length, hDl, dc_length]; rfl) (dc_one _) (by rw [size36]; rfl) (fun w12 hA12 => hK _ _ ?_))
      clear hK K
      replace hA12 : At w ([(b10, 36, dc D), (b4, 36, Z0)] ++ X ++ Xo ++ Xi2) w12 := hA12
      refine vc_nil ?_
      refine hK16 _ _ ?_; clear  hK16 K16
      apply wp_seq_k; intro K17 hK17
      refine wp_region_lit ?_
      refine vc_y hF rfl rfl (by decide) _ (y_move rfl rfl) (fun a hF => ?_)
      refine vc_y hF rfl rfl (by decide) _ (y_sliceArr rfl Tryd.underlying36 bk_size5 rfl (.none 0) (.none 32) (by decide) (by decide) slice_to) (fun a hF => ?_)
      have hsD : Src Tryd.prog 1 24 (.slice (some ⟨b10, 0, none⟩) 32 32) 32 (dc D) w12 := by
        have hk2 : ([(b10, 36, dc D), (b4, 36, Z0)] ++ X ++ Xo ++ Xi2)[0]? = some (b10, 36, dc D ++ []) := by rw [List.append_nil]; rfl
        have h := Bts.src (P := Tryd.prog) (c := 32) Tryd.underlying24 (bts_front hA12 hk2)
        rw [hDl] at h
        exact h
      refine vc_op rfl (fun K hK => ws_own hF rfl (by decide) rfl ([(b10, 36, dc D), (b4, 36, Z0)] ++ X ++ Xi2) (X := Xo) (hA12.perm (perm_swap3 ([(b10, 36, dc D), (b4, 36, Z0)] ++ X) Xo Xi2)) hOo Tryd.underlying24 elem5 rfl rfl hsD (by omega) (by decide) (fun vo2 Xo2 w13 a hOo2 hF hA13 => hK _ _ ?_))
      clear hK K
      rw [← dc_append] at hOo2
      obtain ⟨_, Ao, co, rfl, _, hBo⟩ := own_parts hOo2
      refine vc_op rfl (fun K hK => ws_call hF rfl (by decide) cl19_rm rfl rfl ?_)
      with_reducible refine (refsum_any w13 Ao (O ++ D) co _ rfl (hBo _ _ hA13) (by rw [List.length_append]; omega)).mono ?_
      rintro e' w14 ⟨rfl, hc14⟩
      refine ⟨_, rfl, fun a hF => hK _ _ ?_⟩; clear hK K
      have hA14 : At w ([(b10, 36, dc D), (b4, 36, Z0)] ++ X ++ Xi2 ++ Xo2) w14 := hA13.then0 hc14
      clear hc14
      refine vc_op rfl (fun K hK => ws_storeAll hF rfl rfl hA14 rfl rfl 1 rfl (by rw [dc_length, sha_length, hZl]) (dc_one _) (by rw [size36, hZl]) (fun w15 hA15 => hK _ _ ?_))
      clear hK K
      replace hA15 : At w ([(b10, 36, dc D), (b4, 36, dc (sha (O ++ D)))] ++ X ++ Xi2 ++ Xo2) w15 := hA15
      refine vc_nil ?_
      refine hK17 _ _ ?_; clear  hK17 K17
      apply wp_ret
      refine vc_retc hF Tryd.results26 hA15 rfl 1 rfl (by rw [dc_length, sha_length]; exact row36) ?_
      refine ⟨?_, hA15.clear (all_new (all_new (all_new (all_new (one_new (by have := hA10.size; omega)) (one_new q4)) hX) hOi2.new) hOo2.new)⟩
      rw [hD, hI, hO, hk']
      rfl
  by_cases hlong : 64 < k.length
  · have ek : k' = sha k := by rw [hk', macK, if_pos hlong]
    refine vc_trueB hF rfl (gtr_t (by omega)) ?_
    apply wp_seq_k; intro K18 hK18
    refine wp_region_lit ?_
    refine vc_y hF rfl rfl (by decide) _ (y_move rfl rfl) (fun a hF => ?_)
    refine vc_op rfl (fun K hK => ws_call hF rfl (by decide) cl19_rm rfl rfl ?_)
    with_reducible refine (refsum_any w1 KA k ck k.length rfl (hBk.fresh hA1 (one_new hb4)) (by omega)).mono ?_
    rintro e' w2 ⟨rfl, hc2⟩
    refine ⟨_, rfl, fun a hF => hK _ _ ?_⟩; clear hK K
    have hA2 := hA1.then0 hc2
    clear hc2
    refine vc_op rfl (fun K hK => ws_alloc hF rfl (by decide) rfl hA2 zero36 (fun b5 w3 a hb5 hF hA3 => hK _ _ ?_))
    clear hK K
    refine vc_op rfl (fun K hK => ws_storeAll hF rfl rfl hA3 rfl rfl 0 rfl (by rw [dc_length, sha_length, dc_length]; rfl) (dc_one _) (by rw [size36]; rfl) (fun w4 hA4 => hK _ _ ?_))
    clear hK K
    replace hA4 : At w [(b5, 36, dc (sha k)), (b4, 36, Z0)] w4 := hA4
    refine vc_nil ?_
    refine hK18 _ _ ?_; clear  hK18 K18
    refine wp_region_lit ?_
    refine vc_y hF rfl rfl (by decide) _ (y_sliceArr rfl Tryd.underlying36 bk_size5 rfl (.none 0) (.none 32) (by decide) (by decide) slice_to) (fun a hF => ?_)
    refine vc_y hF rfl rfl (by decide) _ (y_assign rfl rfl) (fun a hF => ?_)
    refine vc_nil ?_
    refine tail _ _ [(b5, 36, dc (sha k))] (some ⟨b5, 0, none⟩) 32 ?_ (hA4.perm (List.Perm.swap _ _ _)) (one_new (by have := hA2.size; omega)) ?_
    · have h := hF.keep [0, 1, 4] (F' := [(0, _), (1, _), (4, _)]) rfl
      rw [ek, sha_length]
      exact h
    · intro R Y x hx hR hY
      rw [ek]
      have hk2 : (R ++ [(b5, 36, dc (sha k))] ++ Y)[R.length]? = some (b5, 36, dc (sha k) ++ []) := by simp
      exact bts_front hx hk2
  · have ek : k' = k := by rw [hk', macK, if_neg hlong]
    refine vc_falseB hF rfl (gtr_f (by omega)) ?_
    apply wp_skip
    refine tail _ _ [] KA ck ?_ hA1 nil_new ?_
    · rw [ek]
      exact hF.keep [0, 1, 4] rfl
    · intro R Y x hx hR hY
      rw [ek]
      exact hBk.fresh hx (all_new (all_new hR nil_new) hY)
end Go.Proofs.YtppmhlkonemebaaDoor
