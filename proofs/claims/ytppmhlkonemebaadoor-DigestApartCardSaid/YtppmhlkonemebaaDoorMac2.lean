/- The walk of Mac: keys of whatever length. -/
import Derived.Test.YtppmhlkonemebaaDoorRefMac
namespace Go.Proofs.YtppmhlkonemebaaDoor
open Go.RowKit Go.Dk

/-- the first i bytes taken through f -/
def thru (f : UInt8 → UInt8) (X : List UInt8) (i : Nat) : List UInt8 := (X.map f).take i ++ X.drop i
theorem thru_set (f : UInt8 → UInt8) (X : List UInt8) (i : Nat) (hi : i < X.length) : (dc (thru f X i)).set i (.int .u8 ((f (bAt X i)).toNat : Int)) = dc (thru f X (i + 1)) := mset f X i hi
theorem put_fill (k : List UInt8) : splice (dc (List.replicate 64 0)) 0 (dc k) = dc (thru xin (fill64 k) 0) := by
  show _ = dc (fill64 k)
  unfold splice fill64
  rw [List.take_zero, List.nil_append, Nat.zero_add, dc_length, dc_drop, ← dc_append, List.drop_replicate]
theorem thru_zero (f g : UInt8 → UInt8) (X : List UInt8) : thru f X 0 = thru g X 0 := rfl
theorem not0 {w : World} {L : List Row} (hpos : 0 < w.heap.size) (h : ∀ r ∈ L, w.heap.size ≤ (r : Row).1) : 0 ∉ L.map (fun r : Row => r.1) := fun hm => by
  obtain ⟨r, hr, he⟩ := List.mem_map.1 hm
  have := h r hr
  omega
theorem bts_all {w0 w : World} {L : List Row} {k g : Nat} {t : TypeId} {l : List UInt8} (hA : At w0 L w) (hk : L[k]? = some (g, t, dc l)) : Bts w (some ⟨g, 0, none⟩) l :=
  bts_front (R := []) hA (by rw [List.append_nil]; exact hk)
theorem perm_front (r : Row) (L : List Row) : (r :: L).Perm (L ++ [r]) := (List.perm_append_singleton r L).symm
theorem nr5_m2 : notRow Tryd.prog 5 = true := by kernel_rfl
theorem sz5_m2 : (Tryd.prog.info? 5).map (·.size) = some 1 := by kernel_rfl
theorem cl13_m2 : CallsTo Tryd.prog 13 := ⟨_, Tryd.func13, by kernel_rfl, by kernel_rfl⟩
theorem cl14_m2 : CallsTo Tryd.prog 14 := ⟨_, Tryd.func14, by kernel_rfl, by kernel_rfl⟩
theorem cl15_m2 : CallsTo Tryd.prog 15 := ⟨_, Tryd.func15, by kernel_rfl, by kernel_rfl⟩
theorem cl21_m2 : CallsTo Tryd.prog 21 := ⟨_, Tryd.func21, by kernel_rfl, by kernel_rfl⟩

set_option maxRecDepth 100000 in
set_option maxHeartbeats 2000000 in
theorem mac_any (w : World) (KA MA : Option Addr) (k m : List UInt8) (ck cm : Nat) (hck : k.length ≤ ck) (hcm : m.length ≤ cm) (hBk : Bts w KA k) (hIk : In w KA) (hBm : Bts w MA m) (hIm : In w MA) (hk : k.length < 140737488355000) (hm : m.length < 140737488355000) (hT : Tab w) :
    Calls Tryd.prog 25 #[.slice KA k.length ck, .slice MA m.length cm] w fun e w' => e = .returned (.agg (dc (macL (macK k) m)).toArray) ∧ At w [] w' := by
  have hA0 := At.refl w
  have hpos : 0 < w.heap.size := hT.lt
  obtain ⟨Z0, hZ0⟩ : ∃ Z, Z = dc (List.replicate 32 0) := ⟨_, rfl⟩
  have hZl : Z0.length = 32 := by rw [hZ0]; rfl
  obtain ⟨k', hk'⟩ : ∃ k', k' = macK k := ⟨_, rfl⟩
  have hk64 : k'.length ≤ 64 := by rw [hk']; exact macK_len k
  obtain ⟨B, hB⟩ : ∃ B, B = fill64 k' := ⟨_, rfl⟩
  have hBl : B.length = 64 := by rw [hB, fill_len k' hk64]
  obtain ⟨I, hI⟩ : ∃ I, I = B.map xin := ⟨_, rfl⟩
  obtain ⟨O, hO⟩ : ∃ O, O = B.map xout := ⟨_, rfl⟩
  have hIl : I.length = 64 := by rw [hI, List.length_map, hBl]
  have hOl : O.length = 64 := by rw [hO, List.length_map, hBl]
  refine vc_enter Tryd.func25 rfl Tryd.ntmps25 (Nat.le_of_ble_eq_true rfl) (fun a hF => ?_)
  apply wp_seq_k; intro K1 hK1
  refine wp_region_lit ?_
  refine vc_op rfl (fun K hK => ws_alloc hF rfl (by decide) rfl hA0 zero36 (fun b4 w1 a hb4 hF hA1 => hK _ _ ?_))
  clear hK K
  replace hA1 : At w [(b4, 36, Z0)] w1 := by rw [hZ0]; exact hA1
  refine vc_nil ?_
  refine hK1 _ _ ?_; clear  hK1 K1
  apply wp_seq_k; intro K2 hK2
  refine wp_region_lit ?_
  refine vc_op rfl (fun K hK => ws_alloc hF rfl (by decide) rfl hA1 zero84 (fun b5 w2 a hb5 hF hA2 => hK _ _ ?_))
  clear hK K
  refine vc_op rfl (fun K hK => ws_alloc hF rfl (by decide) rfl hA2 zero84 (fun b6 w3 a hb6 hF hA3 => hK _ _ ?_))
  clear hK K
  refine vc_nil ?_
  refine hK2 _ _ ?_; clear  hK2 K2
  apply wp_seq_k; intro K3 hK3
  apply wp_seq_k; intro K4 hK4
  refine wp_region_lit ?_
  refine vc_y hF rfl rfl (by decide) _ (y_move rfl rfl) (fun a hF => ?_)
  refine vc_y hF rfl rfl (by decide) _ (y_lenSl rfl Tryd.underlying24 rfl rfl) (fun a hF => ?_)
  refine vc_y hF rfl rfl (by decide) _ (y_cmp rfl rfl rfl rfl rfl) (fun a hF => ?_)
  refine vc_nil ?_
  refine hK4 _ _ ?_; clear  hK4 K4
  have q4 : w.heap.size ≤ b4 := hb4
  have q5 : w.heap.size ≤ b5 := by have := hA1.size; omega
  have q6 : w.heap.size ≤ b6 := by have := hA2.size; omega
  have hn3 : ∀ r ∈ [((b6, 84, dc (List.replicate 64 0)) : Row), (b5, 84, dc (List.replicate 64 0)), (b4, 36, Z0)], w.heap.size ≤ r.1 := cons_new q6 (cons_new q5 (one_new q4))
  have tail : ∀ (a : Act) (x : World) (X : List Row) (K' : Option Addr) (ck' : Nat), Fr 55 [(0, .slice K' k'.length ck'), (1, .slice MA m.length cm), (4, .pointer (some ⟨b4, 0, none⟩)), (5, .pointer (some ⟨b5, 0, none⟩)), (6, .pointer (some ⟨b6, 0, none⟩))] a → At w ([(b6, 84, dc (List.replicate 64 0)), (b5, 84, dc (List.replicate 64 0)), (b4, 36, Z0)] ++ X) x → (∀ r ∈ X, w.heap.size ≤ (r : Row).1) → KeyAt w X K' k' → K3 a x := by
    clear hF
    intro a x X K' ck' hF hAx hX hKey
    refine hK3 _ _ ?_; clear  hK3 K3
    apply wp_seq_k; intro K5 hK5
    refine wp_region_lit ?_
    refine vc_y hF rfl rfl (by decide) _ (y_sliceArr rfl Tryd.underlying84 bk_size5 rfl (.none 0) (.none 64) (by decide) (by decide) slice_to) (fun a hF => ?_)
    refine vc_y hF rfl rfl (by decide) _ (y_move rfl rfl) (fun a hF => ?_)
    refine vc_op rfl (fun K hK => ws_copy hF rfl (by decide) rfl hAx Tryd.underlying24 bk_size5 rfl rfl k' (Nat.min_eq_left hk64).symm (hKey _ [] x (by rw [List.append_nil]; exact hAx) hn3 nil_new) 0 1 rfl (fun _ => rfl) (by rw [dc_length, List.length_replicate]; omega) (fun w7 a hF hA7 => hK _ _ ?_))
    clear hK K
    replace hA7 : At w ([(b6, 84, dc (List.replicate 64 0)), (b5, 84, dc (thru xin B 0)), (b4, 36, Z0)] ++ X) w7 := by rw [hB, ← put_fill k']; exact hA7
    have hn7 : ∀ r ∈ [((b6, 84, dc (List.replicate 64 0)) : Row), (b5, 84, dc (thru xin B 0)), (b4, 36, Z0)], w.heap.size ≤ r.1 := cons_new q6 (cons_new q5 (one_new q4))
    refine vc_nil ?_
    refine hK5 _ _ ?_; clear  hK5 K5
    apply wp_seq_k; intro K6 hK6
    refine wp_region_lit ?_
    refine vc_y hF rfl rfl (by decide) _ (y_sliceArr rfl Tryd.underlying84 bk_size5 rfl (.none 0) (.none 64) (by decide) (by decide) slice_to) (fun a hF => ?_)
    refine vc_y hF rfl rfl (by decide) _ (y_move rfl rfl) (fun a hF => ?_)
    refine vc_op rfl (fun K hK => ws_copy hF rfl (by decide) rfl hA7 Tryd.underlying24 bk_size5 rfl rfl k' (Nat.min_eq_left hk64).symm (hKey _ [] w7 (by rw [List.append_nil]; exact hA7) hn7 nil_new) 0 0 rfl (fun _ => rfl) (by rw [dc_length, List.length_replicate]; omega) (fun w8 a hF hA8 => hK _ _ ?_))
    clear hK K
    replace hA8 : At w ([(b6, 84, dc (thru xout B 0)), (b5, 84, dc (thru xin B 0)), (b4, 36, Z0)] ++ X) w8 := by
        have e : splice (dc (List.replicate 64 0)) 0 (dc k') = dc (thru xout B 0) := by rw [put_fill k', hB]; rfl
        rw [e] at hA8
        exact hA8
    refine vc_nil ?_
    refine hK6 _ _ ?_; clear  hK6 K6
    apply wp_seq_k; intro K7 hK7
    apply wp_seq_k; intro K8 hK8
    refine wp_region_lit ?_
    refine vc_y hF rfl rfl (by decide) _ (y_move rfl rfl) (fun a hF => ?_)
    refine vc_nil ?_
    refine hK8 _ _ ?_; clear  hK8 K8
    apply wp_block
    refine vc_loop (G := Nat) (fun i a x => i ≤ 64 ∧ Fr 55 [(23, .int .i64 (i : Int)), (1, .slice MA m.length cm), (4, .pointer (some ⟨b4, 0, none⟩)), (5, .pointer (some ⟨b5, 0, none⟩)), (6, .pointer (some ⟨b6, 0, none⟩))] a ∧ At w ([(b6, 84, dc (thru xout B i)), (b5, 84, dc (thru xin B i)), (b4, 36, Z0)] ++ X) x) (fun i => 64 - i) 0 ⟨Nat.zero_le _, hF.keep [23, 1, 4, 5, 6] rfl, hA8⟩ ?_
    clear hF
    rintro i a wr ⟨hi, hF, hAr⟩
    by_cases hlt : i < 64
    · apply wp_seq_k; intro K9 hK9
      refine wp_region_lit ?_
      refine vc_y hF rfl rfl (by decide) _ (y_cmp rfl rfl rfl rfl rfl) (fun a hF => ?_)
      refine vc_nil ?_
      refine hK9 _ _ ?_; clear  hK9 K9
      apply wp_seq_k; intro K10 hK10
      refine vc_trueB hF rfl (lss_t (by omega)) ?_
      apply wp_skip
      refine hK10 _ _ ?_; clear  hK10 K10
      apply wp_seq_k; intro K11 hK11
      apply wp_block
      apply wp_seq_k; intro K12 hK12
      refine wp_region_lit ?_
      refine vc_y hF rfl rfl (by decide) _ (y_move rfl rfl) (fun a hF => ?_)
      refine vc_y hF rfl rfl (by decide) _ (y_assign rfl rfl) (fun a hF => ?_)
      refine vc_nil ?_
      refine hK12 _ _ ?_; clear  hK12 K12
      apply wp_seq_k; intro K13 hK13
      refine wp_region_lit ?_
      refine vc_y hF rfl rfl (by decide) _ (y_move rfl rfl) (fun a hF => ?_)
      refine vc_y hF rfl rfl (by decide) _ (y_ixArr rfl Tryd.underlying84 sz5_m2 rfl rfl i rfl hlt (ad1 _ _) (rfl : (none : Option Nat) = none)) (fun a hF => ?_)
      refine vc_y hF rfl rfl (by decide) _ (y_loadAt rfl hAr rfl 1 rfl (mget xin B i (by omega)) nr5_m2) (fun a hF => ?_)
      refine vc_y hF rfl rfl (by decide) _ (y_xor rfl rfl rfl (xor_in _)) (fun a hF => ?_)
      refine vc_y hF rfl rfl (by decide) _ (y_ixArr rfl Tryd.underlying84 sz5_m2 rfl rfl i rfl hlt (ad1 _ _) (rfl : (none : Option Nat) = none)) (fun a hF => ?_)
      refine vc_op rfl (fun K hK => ws_store1 hF rfl rfl hAr rfl rfl 1 rfl (by rw [dc_length, thru, List.length_append, List.length_take, List.length_map, List.length_drop]; omega) rfl sz5_m2 (fun w9 hA9 => hK _ _ ?_))
      clear hK K
      replace hA9 : At w ([(b6, 84, dc (thru xout B i)), (b5, 84, dc (thru xin B (i + 1))), (b4, 36, Z0)] ++ X) w9 := by rw [← thru_set xin B i (by omega)]; exact hA9
      refine vc_nil ?_
      refine hK13 _ _ ?_; clear  hK13 K13
      refine wp_region_lit ?_
      refine vc_y hF rfl rfl (by decide) _ (y_move rfl rfl) (fun a hF => ?_)
      refine vc_y hF rfl rfl (by decide) _ (y_ixArr rfl Tryd.underlying84 sz5_m2 rfl rfl i rfl hlt (ad1 _ _) (rfl : (none : Option Nat) = none)) (fun a hF => ?_)
      refine vc_y hF rfl rfl (by decide) _ (y_loadAt rfl hA9 rfl 0 rfl (mget xout B i (by omega)) nr5_m2) (fun a hF => ?_)
      refine vc_y hF rfl rfl (by decide) _ (y_xor rfl rfl rfl (xor_out _)) (fun a hF => ?_)
      refine vc_y hF rfl rfl (by decide) _ (y_ixArr rfl Tryd.underlying84 sz5_m2 rfl rfl i rfl hlt (ad1 _ _) (rfl : (none : Option Nat) = none)) (fun a hF => ?_)
      refine vc_op rfl (fun K hK => ws_store1 hF rfl rfl hA9 rfl rfl 0 rfl (by rw [dc_length, thru, List.length_append, List.length_take, List.length_map, List.length_drop]; omega) rfl sz5_m2 (fun w10 hA10 => hK _ _ ?_))
      clear hK K
      replace hA10 : At w ([(b6, 84, dc (thru xout B (i + 1))), (b5, 84, dc (thru xin B (i + 1))), (b4, 36, Z0)] ++ X) w10 := by rw [← thru_set xout B i (by omega)]; exact hA10
      refine vc_nil ?_
      refine hK11 _ _ ?_; clear  hK11 K11
      refine wp_region_lit ?_
      refine vc_y hF rfl rfl (by decide) _ (y_add rfl rfl rfl (IntWalk.i64_in _ (by omega))) (fun a hF => ?_)
      refine vc_y hF rfl rfl (by decide) _ (y_move rfl rfl) (fun a hF => ?_)
      refine vc_nil ?_
      exact ⟨i + 1, by omega, by omega, hF.keep [23, 1, 4, 5, 6] rfl, hA10⟩
    · obtain rfl : i = 64 := by omega
      have e1 : thru xin B 64 = I := by rw [hI]; exact mend xin B 64 hBl.symm
      have e2 : thru xout B 64 = O := by rw [hO]; exact mend xout B 64 hBl.symm
      rw [e1, e2] at hAr
      have hnE : ∀ r ∈ [(b6, 84, dc O), (b5, 84, dc I), (b4, 36, Z0)] ++ X, w.heap.size ≤ (r : Row).1 := all_new (cons_new q6 (cons_new q5 (one_new q4))) hX
      obtain ⟨D, hD⟩ : ∃ D, D = sha (I ++ m) := ⟨_, rfl⟩
      have hDl : D.length = 32 := by rw [hD, sha_length]
      apply wp_seq_k; intro K14 hK14
      refine wp_region_lit ?_
      refine vc_y hF rfl rfl (by decide) _ (y_cmp rfl rfl rfl rfl rfl) (fun a hF => ?_)
      refine vc_nil ?_
      refine hK14 _ _ ?_; clear  hK14 K14
      apply wp_seq_k; intro K15 hK15
      refine vc_falseB hF rfl (lss_f (by omega)) ?_
      apply wp_exit
      refine hK7 _ _ ?_; clear hK15 K15 hK7 K7
      apply wp_seq_k; intro K16 hK16
      refine wp_region_lit ?_
      refine vc_op rfl (fun K hK => ws_call hF rfl (by decide) cl13_m2 rfl rfl ?_)
      with_reducible refine (new_any wr).mono ?_
      rintro e' w11 ⟨b9, cs9, rfl, hb9, hH9, hc11⟩
      refine ⟨_, rfl, fun a hF => hK _ _ ?_⟩; clear hK K
      have q9 : w.heap.size ≤ b9 := by have := hAr.size; omega
      have hA11 : At w ((b9, 87, cs9) :: ([(b6, 84, dc O), (b5, 84, dc I), (b4, 36, Z0)] ++ X)) w11 := hAr.thenNew hc11 (one_new hb9)
      clear hc11
      have l5 : b5 < b9 := by have := hAr.lt (k := 1) rfl; omega
      have l6 : b6 < b9 := by have := hAr.lt (k := 0) rfl; omega
      refine vc_y hF rfl rfl (by decide) _ (y_assign rfl rfl) (fun a hF => ?_)
      refine vc_nil ?_
      refine hK16 _ _ ?_; clear  hK16 K16
      apply wp_seq_k; intro K17 hK17
      refine wp_region_lit ?_
      refine vc_y hF rfl rfl (by decide) _ (y_move rfl rfl) (fun a hF => ?_)
      refine vc_y hF rfl rfl (by decide) _ (y_sliceArr rfl Tryd.underlying84 bk_size5 rfl (.none 0) (.none 64) (by decide) (by decide) slice_to) (fun a hF => ?_)
      refine vc_op rfl (fun K hK => ws_call hF rfl (by decide) cl14_m2 rfl rfl ?_)
      with_reducible refine (write_n w11 b9 [] cs9 hH9 (hA11.row (k := 0) rfl) (some ⟨b5, 0, none⟩) I 64 64 hIl.symm (bts_all hA11 (k := 2) rfl) (by omega) (off_some (by omega)) (by simp only [List.length_nil]; omega) (hT.at_ hA11 (not0 hpos (cons_new q9 hnE))) (by omega)).mono ?_
      rintro e' w12 ⟨rfl, cs10, hH10, hc12⟩
      refine ⟨_, rfl, fun a hF => hK _ _ ?_⟩; clear hK K
      have hA12 : At w ((b9, 87, cs10) :: ([(b6, 84, dc O), (b5, 84, dc I), (b4, 36, Z0)] ++ X)) w12 := hA11.then1 (k := 0) rfl hc12
      clear hc12
      rw [List.nil_append] at hH10
      refine vc_nil ?_
      refine hK17 _ _ ?_; clear  hK17 K17
      apply wp_seq_k; intro K18 hK18
      refine wp_region_lit ?_
      refine vc_y hF rfl rfl (by decide) _ (y_move rfl rfl) (fun a hF => ?_)
      refine vc_y hF rfl rfl (by decide) _ (y_move rfl rfl) (fun a hF => ?_)
      refine vc_op rfl (fun K hK => ws_call hF rfl (by decide) cl14_m2 rfl rfl ?_)
      with_reducible refine (write_n w12 b9 I cs10 hH10 (hA12.row (k := 0) rfl) MA m cm m.length rfl (hBm.fresh hA12 (cons_new q9 hnE)) hcm (hIm.off q9) (by omega) (hT.at_ hA12 (not0 hpos (cons_new q9 hnE))) (by omega)).mono ?_
      rintro e' w13 ⟨rfl, cs11, hH11, hc13⟩
      refine ⟨_, rfl, fun a hF => hK _ _ ?_⟩; clear hK K
      have hA13 : At w ((b9, 87, cs11) :: ([(b6, 84, dc O), (b5, 84, dc I), (b4, 36, Z0)] ++ X)) w13 := hA12.then1 (k := 0) rfl hc13
      clear hc13
      refine vc_nil ?_
      refine hK18 _ _ ?_; clear  hK18 K18
      apply wp_seq_k; intro K19 hK19
      refine wp_region_lit ?_
      refine vc_y hF rfl rfl (by decide) _ (y_move rfl rfl) (fun a hF => ?_)
      refine vc_op rfl (fun K hK => ws_call hF rfl (by decide) cl15_m2 rfl rfl ?_)
      with_reducible refine (sum_any w13 b9 (I ++ m) cs11 hH11 (hA13.row (k := 0) rfl) (by rw [List.length_append]; omega) (hT.at_ hA13 (not0 hpos (cons_new q9 hnE))) (by omega)).mono ?_
      rintro e' w14 ⟨rfl, hc14⟩
      refine ⟨_, rfl, fun a hF => hK _ _ ?_⟩; clear hK K
      have hA14 : At w ((b9, 87, cs11) :: ([(b6, 84, dc O), (b5, 84, dc I), (b4, 36, Z0)] ++ X)) w14 := hA13.then0 hc14
      clear hc14
      rw [← hD] at hF
      refine vc_op rfl (fun K hK => ws_alloc hF rfl (by decide) rfl hA14 zero36 (fun b10 w15 a hb10 hF hA15 => hK _ _ ?_))
      clear hK K
      refine vc_op rfl (fun K hK => ws_storeAll hF rfl rfl hA15 rfl rfl 0 rfl (by rw [dc_length, hDl, dc_length]; rfl) (dc_one _) (by rw [size36]; rfl) (fun w16 hA16 => hK _ _ ?_))
      clear hK K
      replace hA16 : At w ((b10, 36, dc D) :: (b9, 87, cs11) :: ([(b6, 84, dc O), (b5, 84, dc I), (b4, 36, Z0)] ++ X)) w16 := hA16
      refine vc_nil ?_
      refine hK19 _ _ ?_; clear  hK19 K19
      apply wp_seq_k; intro K20 hK20
      refine wp_region_lit ?_
      refine vc_op rfl (fun K hK => ws_call hF rfl (by decide) cl13_m2 rfl rfl ?_)
      with_reducible refine (new_any w16).mono ?_
      rintro e' w17 ⟨b11, cs12, rfl, hb11, hH12, hc17⟩
      refine ⟨_, rfl, fun a hF => hK _ _ ?_⟩; clear hK K
      have q10 : w.heap.size ≤ b10 := by have := hA14.size; omega
      have q11 : w.heap.size ≤ b11 := by have := hA16.size; omega
      have hA17 : At w ((b11, 87, cs12) :: (b10, 36, dc D) :: (b9, 87, cs11) :: ([(b6, 84, dc O), (b5, 84, dc I), (b4, 36, Z0)] ++ X)) w17 := hA16.thenNew hc17 (one_new hb11)
      clear hc17
      have l10 : b10 < b11 := by have := hA16.lt (k := 0) rfl; omega
      have l6b : b6 < b11 := by have := hA16.lt (k := 2) rfl; omega
      have hnF := cons_new (t := 36) (cs := dc D) q10 (cons_new (t := 87) (cs := cs11) q9 hnE)
      refine vc_y hF rfl rfl (by decide) _ (y_assign rfl rfl) (fun a hF => ?_)
      refine vc_nil ?_
      refine hK20 _ _ ?_; clear  hK20 K20
      apply wp_seq_k; intro K21 hK21
      refine wp_region_lit ?_
      refine vc_y hF rfl rfl (by decide) _ (y_move rfl rfl) (fun a hF => ?_)
      refine vc_y hF rfl rfl (by decide) _ (y_sliceArr rfl Tryd.underlying84 bk_size5 rfl (.none 0) (.none 64) (by decide) (by decide) slice_to) (fun a hF => ?_)
      refine vc_op rfl (fun K hK => ws_call hF rfl (by decide) cl14_m2 rfl rfl ?_)
      with_reducible refine (write_n w17 b11 [] cs12 hH12 (hA17.row (k := 0) rfl) (some ⟨b6, 0, none⟩) O 64 64 hOl.symm (bts_all hA17 (k := 3) rfl) (by omega) (off_some (by omega)) (by simp only [List.length_nil]; omega) (hT.at_ hA17 (not0 hpos (cons_new q11 hnF))) (by omega)).mono ?_
      rintro e' w18 ⟨rfl, cs13, hH13, hc18⟩
      refine ⟨_, rfl, fun a hF => hK _ _ ?_⟩; clear hK K
      have hA18 : At w ((b11, 87, cs13) :: (b10, 36, dc D) :: (b9, 87, cs11) :: ([(b6, 84, dc O), (b5, 84, dc I), (b4, 36, Z0)] ++ X)) w18 := hA17.then1 (k := 0) rfl hc18
      clear hc18
      rw [List.nil_append] at hH13
      refine vc_nil ?_
      refine hK21 _ _ ?_; clear  hK21 K21
      apply wp_seq_k; intro K22 hK22
      refine wp_region_lit ?_
      refine vc_y hF rfl rfl (by decide) _ (y_move rfl rfl) (fun a hF => ?_)
      refine vc_y hF rfl rfl (by decide) _ (y_sliceArr rfl Tryd.underlying36 bk_size5 rfl (.none 0) (.none 32) (by decide) (by decide) slice_to) (fun a hF => ?_)
      refine vc_op rfl (fun K hK => ws_call hF rfl (by decide) cl14_m2 rfl rfl ?_)
      with_reducible refine (write_n w18 b11 O cs13 hH13 (hA18.row (k := 0) rfl) (some ⟨b10, 0, none⟩) D 32 32 hDl.symm (bts_all hA18 (k := 1) rfl) (by omega) (off_some (by omega)) (by omega) (hT.at_ hA18 (not0 hpos (cons_new q11 hnF))) (by omega)).mono ?_
      rintro e' w19 ⟨rfl, cs14, hH14, hc19⟩
      refine ⟨_, rfl, fun a hF => hK _ _ ?_⟩; clear hK K
      have hA19 : At w ((b11, 87, cs14) :: (b10, 36, dc D) :: (b9, 87, cs11) :: ([(b6, 84, dc O), (b5, 84, dc I), (b4, 36, Z0)] ++ X)) w19 := hA18.then1 (k := 0) rfl hc19
      clear hc19
      refine vc_nil ?_
      refine hK22 _ _ ?_; clear  hK22 K22
      apply wp_seq_k; intro K23 hK23
      refine wp_region_lit ?_
      refine vc_y hF rfl rfl (by decide) _ (y_move rfl rfl) (fun a hF => ?_)
      refine vc_op rfl (fun K hK => ws_call hF rfl (by decide) cl15_m2 rfl rfl ?_)
      with_reducible refine (sum_any w19 b11 (O ++ D) cs14 hH14 (hA19.row (k := 0) rfl) (by rw [List.length_append]; omega) (hT.at_ hA19 (not0 hpos (cons_new q11 hnF))) (by omega)).mono ?_
      rintro e' w20 ⟨rfl, hc20⟩
      refine ⟨_, rfl, fun a hF => hK _ _ ?_⟩; clear hK K
      have hA20 : At w ((b11, 87, cs14) :: (b10, 36, dc D) :: (b9, 87, cs11) :: ([(b6, 84, dc O), (b5, 84, dc I), (b4, 36, Z0)] ++ X)) w20 := hA19.then0 hc20
      clear hc20
      refine vc_op rfl (fun K hK => ws_storeAll hF rfl rfl hA20 rfl rfl 5 rfl (by rw [dc_length, sha_length, hZl]) (dc_one _) (by rw [size36, hZl]) (fun w21 hA21 => hK _ _ ?_))
      clear hK K
      refine vc_nil ?_
      refine hK23 _ _ ?_; clear  hK23 K23
      apply wp_ret
      refine vc_retc hF Tryd.results25 hA21 rfl 5 rfl (by rw [dc_length, sha_length]; exact row36) ?_
      refine ⟨?_, hA21.clear (cons_new q11 (cons_new q10 (cons_new q9 (cons_new q6 (cons_new q5 (cons_new q4 hX))))))⟩
      rw [hD, hI, hO, hB, hk']
      rfl
  by_cases hlong : 64 < k.length
  · have ek : k' = sha k := by rw [hk', macK, if_pos hlong]
    refine vc_trueB hF rfl (gtr_t (by omega)) ?_
    apply wp_seq_k; intro K24 hK24
    refine wp_region_lit ?_
    refine vc_y hF rfl rfl (by decide) _ (y_move rfl rfl) (fun a hF => ?_)
    refine vc_op rfl (fun K hK => ws_call hF rfl (by decide) cl21_m2 rfl rfl ?_)
    with_reducible refine (digest_any w3 KA k ck k.length rfl hck (hBk.fresh hA3 hn3) (hIk.size hA3.size) (by omega) (hT.at_ hA3 (not0 hpos hn3))).mono ?_
    rintro e' w4 ⟨rfl, hc4⟩
    refine ⟨_, rfl, fun a hF => hK _ _ ?_⟩; clear hK K
    have hA4 := hA3.then0 hc4
    clear hc4
    refine vc_op rfl (fun K hK => ws_alloc hF rfl (by decide) rfl hA4 zero36 (fun b7 w5 a hb7 hF hA5 => hK _ _ ?_))
    clear hK K
    refine vc_op rfl (fun K hK => ws_storeAll hF rfl rfl hA5 rfl rfl 0 rfl (by rw [dc_length, sha_length, dc_length]; rfl) (dc_one _) (by rw [size36]; rfl) (fun w6 hA6 => hK _ _ ?_))
    clear hK K
    refine vc_nil ?_
    refine hK24 _ _ ?_; clear  hK24 K24
    refine wp_region_lit ?_
    refine vc_y hF rfl rfl (by decide) _ (y_sliceArr rfl Tryd.underlying36 bk_size5 rfl (.none 0) (.none 32) (by decide) (by decide) slice_to) (fun a hF => ?_)
    refine vc_y hF rfl rfl (by decide) _ (y_assign rfl rfl) (fun a hF => ?_)
    refine vc_nil ?_
    refine tail _ _ [(b7, 36, dc (sha k))] (some ⟨b7, 0, none⟩) 32 ?_ (hA6.perm (perm_front _ _)) (one_new (by have := hA4.size; omega)) ?_
    · have h := hF.keep [0, 1, 4, 5, 6] (F' := [(0, _), (1, _), (4, _), (5, _), (6, _)]) rfl
      rw [ek, sha_length]
      exact h
    · intro R Y x hx hR hY
      rw [ek]
      have hk2 : (R ++ [(b7, 36, dc (sha k))] ++ Y)[R.length]? = some (b7, 36, dc (sha k) ++ []) := by simp
      exact bts_front hx hk2
  · have ek : k' = k := by rw [hk', macK, if_neg hlong]
    refine vc_falseB hF rfl (gtr_f (by omega)) ?_
    apply wp_skip
    refine tail _ _ [] KA ck ?_ (by rw [List.append_nil]; exact hA3) nil_new ?_
    · rw [ek]
      exact hF.keep [0, 1, 4, 5, 6] rfl
    · intro R Y x hx hR hY
      rw [ek]
      exact hBk.fresh hx (all_new (all_new hR nil_new) hY)
end Go.Proofs.YtppmhlkonemebaaDoor
