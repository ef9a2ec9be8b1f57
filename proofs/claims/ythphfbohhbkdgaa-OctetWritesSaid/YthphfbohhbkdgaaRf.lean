/- The reference's forms. -/
import Derived.Test.YthphfbohhbkdgaaKb
import Derived.Test.YthphfbohhbkdgaaOctetH
import Derived.Test.YthphfbohhbkdgaaBook1
namespace Go.Proofs.Ythphfbohhbkdgaa
open Go.RowKit Go.Dk

theorem rf_be_succ (i n : Nat) : be (i + 1) n = UInt8.ofNat (n / 256 ^ i) :: be i n := by
  unfold be
  rw [List.range_succ_eq_map, List.map_cons, List.map_map]
  refine congrArg _ (List.map_congr_left (fun j hj => ?_))
  rw [List.mem_range] at hj
  show UInt8.ofNat (n / 256 ^ (i + 1 - 1 - (j + 1))) = _
  rw [show i + 1 - 1 - (j + 1) = i - 1 - j by omega]
theorem rf_set (K i n : Nat) (hi : i < K) : (dc (List.replicate (K - i) 0 ++ be i n)).set (0 + (K - 1 - i)) (.int .u8 ((UInt8.ofNat (n / 256 ^ i)).toNat : Int)) = dc (List.replicate (K - (i + 1)) 0 ++ be (i + 1) n) := by
  obtain ⟨m, rfl⟩ : ∃ m, K = m + 1 + i := ⟨K - 1 - i, by omega⟩
  rw [show m + 1 + i - i = m + 1 by omega, show 0 + (m + 1 + i - 1 - i) = m by omega, show m + 1 + i - (i + 1) = m by omega, rf_be_succ]
  have h := set_mid (B := []) (W := dc (List.replicate m 0)) (Z := dc (0 :: be i n)) (j := m) (u := .int .u8 ((UInt8.ofNat (n / 256 ^ i)).toNat : Int)) (by rw [dc_length, List.length_replicate]) (by rw [dc_length, List.length_cons]; omega)
  simp only [List.nil_append, List.length_nil, Nat.zero_add] at h
  rw [List.replicate_succ', List.append_assoc, List.singleton_append]
  unfold dc at h ⊢
  rw [List.map_append, h, List.map_append]
  rfl
theorem nr9_rf : notRow Try.prog 9 = true := by kernel_rfl
theorem sz5_rf : (Try.prog.info? 5).map (·.size) = some 1 := by kernel_rfl
theorem sz9_rf : (Try.prog.info? 9).map (·.size) = some 1 := by kernel_rfl
theorem cl79_rf : CallsTo Try.prog 79 := ⟨_, Try.func79, by kernel_rfl, by kernel_rfl⟩
theorem cl103_rf : CallsTo Try.prog 103 := ⟨_, Try.func103, by kernel_rfl, by kernel_rfl⟩
theorem cl104_rf : CallsTo Try.prog 104 := ⟨_, Try.func104, by kernel_rfl, by kernel_rfl⟩


set_option maxRecDepth 100000 in
set_option maxHeartbeats 4000000 in
theorem rf_least (w : World) (m k : Int) (hk : 0 ≤ k) : Calls Try.prog 103 #[.int .i64 m, .int .i64 k] w fun e w' => e = .returned (.int .i64 (bnd m k)) ∧ w = w' := by
  refine vc_enter Try.func103 rfl Try.ntmps103 (Nat.le_of_ble_eq_true rfl) (fun a hF => ?_)
  apply wp_seq_k; intro K1 hK1
  refine wp_region_lit ?_
  refine vc_y hF rfl rfl (by decide) _ (y_assign rfl rfl) (fun a hF => ?_)
  refine vc_nil ?_
  refine hK1 _ _ ?_; clear  hK1 K1
  apply wp_seq_k; intro K2 hK2
  apply wp_seq_k; intro K3 hK3
  refine wp_region_lit ?_
  refine vc_y hF rfl rfl (by decide) _ (y_move rfl rfl) (fun a hF => ?_)
  refine vc_y hF rfl rfl (by decide) _ (y_cmp rfl rfl rfl rfl rfl) (fun a hF => ?_)
  refine vc_nil ?_
  refine hK3 _ _ ?_; clear  hK3 K3
  by_cases h1 : m < 0
  · refine vc_trueB hF rfl (lss_t (by omega)) ?_
    apply wp_seq_k; intro K4 hK4
    refine wp_region_lit ?_
    refine vc_y hF rfl rfl (by decide) _ (y_assign rfl rfl) (fun a hF => ?_)
    refine vc_nil ?_
    refine hK4 _ _ ?_; clear  hK4 K4
    apply wp_ret
    simp only [Exit.then]
    refine vc_ret1 hF Try.results103 rfl ?_
    exact ⟨by rw [show bnd m k = 0 by unfold bnd; omega], rfl⟩
  · refine vc_falseB hF rfl (lss_f (by omega)) ?_
    apply wp_skip
    refine hK2 _ _ ?_; clear  hK2 K2
    apply wp_seq_k; intro K5 hK5
    apply wp_seq_k; intro K6 hK6
    refine wp_region_lit ?_
    refine vc_y hF rfl rfl (by decide) _ (y_move rfl rfl) (fun a hF => ?_)
    refine vc_y hF rfl rfl (by decide) _ (y_move rfl rfl) (fun a hF => ?_)
    refine vc_y hF rfl rfl (by decide) _ (y_cmp rfl rfl rfl rfl rfl) (fun a hF => ?_)
    refine vc_nil ?_
    refine hK6 _ _ ?_; clear  hK6 K6
    by_cases h2 : m < k
    · refine vc_trueB hF rfl (lss_t (by omega)) ?_
      apply wp_seq_k; intro K7 hK7
      refine wp_region_lit ?_
      refine vc_y hF rfl rfl (by decide) _ (y_move rfl rfl) (fun a hF => ?_)
      refine vc_y hF rfl rfl (by decide) _ (y_assign rfl rfl) (fun a hF => ?_)
      refine vc_nil ?_
      refine hK7 _ _ ?_; clear  hK7 K7
      apply wp_ret
      simp only [Exit.then]
      refine vc_ret1 hF Try.results103 rfl ?_
      exact ⟨by rw [show bnd m k = m by unfold bnd; omega], rfl⟩
    · refine vc_falseB hF rfl (lss_f (by omega)) ?_
      apply wp_skip
      refine hK5 _ _ ?_; clear  hK5 K5
      apply wp_seq_k; intro K8 hK8
      refine wp_region_lit ?_
      refine vc_y hF rfl rfl (by decide) _ (y_move rfl rfl) (fun a hF => ?_)
      refine vc_y hF rfl rfl (by decide) _ (y_assign rfl rfl) (fun a hF => ?_)
      refine vc_nil ?_
      refine hK8 _ _ ?_; clear  hK8 K8
      apply wp_ret
      refine vc_ret1 hF Try.results103 rfl ?_
      exact ⟨by rw [show bnd m k = k by unfold bnd; omega], rfl⟩

set_option maxRecDepth 100000 in
set_option maxHeartbeats 4000000 in
theorem rf_number (w0 w : World) (R : List Seg) (n kk : Nat) (z0 z : Int) (h0 : z0 = n) (hz : z = kk) (hK : kk ≤ 8) (hA : Hp w0 R w) : Calls Try.prog 104 #[.int .u64 z0, .int .i64 z] w fun e w' => ∃ g, e = .returned (.slice (some ⟨g, 0, none⟩) kk kk) ∧ Hp w0 ([row g 5 (dc (be kk n))] :: R) w' := by
  subst h0 hz
  refine vc_enter Try.func104 rfl Try.ntmps104 (Nat.le_of_ble_eq_true rfl) (fun a hF => ?_)
  apply wp_seq_k; intro K1 hK1
  refine wp_region_lit ?_
  refine vc_y hF rfl rfl (by decide) _ (y_assign rfl rfl) (fun a hF => ?_)
  refine vc_nil ?_
  refine hK1 _ _ ?_; clear  hK1 K1
  apply wp_seq_k; intro K2 hK2
  refine wp_region_lit ?_
  refine vc_y hF rfl rfl (by decide) _ (y_move rfl rfl) (fun a hF => ?_)
  refine vc_op rfl (fun K hK => hs_makeU (size := 1) (bytes := 1) (u := .int .u8 0) hF rfl (by decide) rfl hA Try.underlying35 kb_mk_byte (by decide) kk rfl rfl (by omega) (by omega) (by omega) (by omega) (fun b1 w2 a hb1 hF hA3 => hK _ _ ?_))
  clear hK K
  replace hA3 : Hp w0 ([row b1 5 (List.replicate (kk * 1) (.int .u8 0))] :: R) w2 := hA3
  have hA4 : Hp w0 ([row b1 5 (dc (List.replicate (kk - 0) 0 ++ be 0 n))] :: R) w2 := by
    have e : dc (List.replicate (kk - 0) 0 ++ be 0 n) = List.replicate (kk * 1) (.int .u8 0) := by simp [dc, be]
    rw [e]; exact hA3
  refine vc_y hF rfl rfl (by decide) _ (y_assign rfl rfl) (fun a hF => ?_)
  refine vc_nil ?_
  refine hK2 _ _ ?_; clear  hK2 K2
  apply wp_seq_k; intro K3 hK3
  apply wp_seq_k; intro K4 hK4
  refine wp_region_lit ?_
  refine vc_y hF rfl rfl (by decide) _ (y_assign rfl rfl) (fun a hF => ?_)
  refine vc_nil ?_
  refine hK4 _ _ ?_; clear  hK4 K4
  apply wp_block
  refine vc_loop (G := Nat) (fun i a x => i ≤ kk ∧ Fr 27 [(6, .int .i64 (i : Int)), (0, .int .u64 ((n : Nat) : Int)), (1, .int .i64 ((kk : Nat) : Int)), (5, .slice (some ⟨b1, 0, none⟩) kk kk)] a ∧ Hp w0 ([row b1 5 (dc (List.replicate (kk - i) 0 ++ be i n))] :: R) x) (fun i => kk - i) 0 (⟨Nat.zero_le _, hF.keep [6, 0, 1, 5] rfl, hA4⟩) ?_
  clear hF
  rintro i a w6 ⟨hi, hF, hA5⟩
  apply wp_seq_k; intro K5 hK5
  apply wp_seq_k; intro K6 hK6
  refine wp_region_lit ?_
  refine vc_y hF rfl rfl (by decide) _ (y_move rfl rfl) (fun a hF => ?_)
  refine vc_y hF rfl rfl (by decide) _ (y_move rfl rfl) (fun a hF => ?_)
  refine vc_y hF rfl rfl (by decide) _ (y_cmp rfl rfl rfl rfl rfl) (fun a hF => ?_)
  refine vc_nil ?_
  refine hK6 _ _ ?_; clear  hK6 K6
  by_cases hlt : i < kk
  · refine vc_trueB hF rfl (lss_t (by omega)) ?_
    apply wp_skip
    refine hK5 _ _ ?_; clear  hK5 K5
    apply wp_seq_k; intro K7 hK7
    apply wp_block
    refine wp_region_lit ?_
    refine vc_y hF rfl rfl (by decide) _ (y_move rfl rfl) (fun a hF => ?_)
    refine vc_y hF rfl rfl (by decide) _ (y_move rfl rfl) (fun a hF => ?_)
    refine vc_y hF rfl rfl (by decide) _ (y_sub (r := ((kk - 1 : Nat) : Int)) rfl rfl rfl (by rw [IntWalk.i64_in _ (by omega)]; omega)) (fun a hF => ?_)
    refine vc_y hF rfl rfl (by decide) _ (y_move rfl rfl) (fun a hF => ?_)
    refine vc_y hF rfl rfl (by decide) _ (y_sub (r := ((kk - 1 - i : Nat) : Int)) rfl rfl rfl (by rw [IntWalk.i64_in _ (by omega)]; omega)) (fun a hF => ?_)
    refine vc_y hF rfl rfl (by decide) _ (y_move rfl rfl) (fun a hF => ?_)
    refine vc_y hF rfl rfl (by decide) _ (y_move rfl rfl) (fun a hF => ?_)
    refine vc_y hF rfl rfl (by decide) _ (y_mul (r := ((8 * i : Nat) : Int)) rfl rfl rfl (by rw [IntWalk.i64_in _ (by omega)]; omega)) (fun a hF => ?_)
    refine vc_y hF rfl rfl (by decide) _ (y_conv rfl Try.underlying3 Try.underlying91 rfl (show IntKind.u64.wrap (((8 * i : Nat) : Int)) = ((8 * i : Nat) : Int) by rw [IntKind.wrap_u64]; omega)) (fun a hF => ?_)
    refine vc_y hF rfl rfl (by decide) _ (y_shr rfl rfl rfl (by omega) rfl) (fun a hF => ?_)
    refine vc_y hF rfl rfl (by decide) _ (y_conv (r := ((UInt8.ofNat (n / 256 ^ i)).toNat : Int)) rfl Try.underlying33 Try.underlying5 rfl (ow_shr n i (8 * i) rfl (by omega))) (fun a hF => ?_)
    refine vc_y hF rfl rfl (by decide) _ (y_ixSl rfl Try.underlying35 sz5_rf rfl rfl (kk - 1 - i) rfl (by omega) (ad2 _ _ _)) (fun a hF => ?_)
    refine vc_op rfl (fun K hK => hs_store1 hF rfl rfl hA5 rfl rfl 0 rfl (by rw [dc_length, List.length_append, List.length_replicate, be_length]; omega) rfl sz5_rf (fun w7 hA8 => hK _ _ ?_))
    clear hK K
    replace hA8 : Hp w0 ([row b1 5 ((dc (List.replicate (kk - i) 0 ++ be i n)).set (0 + (kk - 1 - i)) (.int .u8 ((UInt8.ofNat (n / 256 ^ i)).toNat : Int)))] :: R) w7 := hA8
    have hA9 : Hp w0 ([row b1 5 (dc (List.replicate (kk - (i + 1)) 0 ++ be (i + 1) n))] :: R) w7 := by
      rw [← rf_set kk i n hlt]; exact hA8
    refine vc_nil ?_
    refine hK7 _ _ ?_; clear  hK7 K7
    refine wp_region_lit ?_
    refine vc_y hF rfl rfl (by decide) _ (y_move rfl rfl) (fun a hF => ?_)
    refine vc_y hF rfl rfl (by decide) _ (y_add rfl rfl rfl (IntWalk.i64_in _ (by omega))) (fun a hF => ?_)
    refine vc_y hF rfl rfl (by decide) _ (y_assign rfl rfl) (fun a hF => ?_)
    refine vc_nil ?_
    exact ⟨i + 1, by omega, by omega, hF.keep [6, 0, 1, 5] rfl, hA9⟩
  · refine vc_falseB hF rfl (lss_f (by omega)) ?_
    obtain rfl : i = kk := by omega
    apply wp_exit
    refine hK3 _ _ ?_; clear hK5 K5 hK3 K3
    apply wp_seq_k; intro K8 hK8
    refine wp_region_lit ?_
    refine vc_y hF rfl rfl (by decide) _ (y_move rfl rfl) (fun a hF => ?_)
    refine vc_y hF rfl rfl (by decide) _ (y_assign rfl rfl) (fun a hF => ?_)
    refine vc_nil ?_
    refine hK8 _ _ ?_; clear  hK8 K8
    apply wp_ret
    refine vc_ret1 hF Try.results104 rfl ?_
    rw [Nat.sub_self, List.replicate_zero, List.nil_append] at hA5
    exact ⟨_, rfl, hA5⟩

set_option maxRecDepth 100000 in
set_option maxHeartbeats 4000000 in
theorem rf_text (w0 w : World) (R : List Seg) (s : List UInt8) (most : Int) (hA : Hp w0 R w) (hl : s.length < 140737488353900) : Calls Try.prog 79 #[strV s, .int .i64 most] w fun e w' => ∃ v' X, e = .returned (.tuple #[v', .int .i64 (textE s most : Nat)]) ∧ Buf 5 1 X v' (textB s most).length (dc (textB s most)) ∧ Hp w0 (X :: R) w' := by
  have hbl := bnd_le most 65535
  refine vc_enter Try.func79 rfl Try.ntmps79 (Nat.le_of_ble_eq_true rfl) (fun a hF => ?_)
  apply wp_seq_k; intro K1 hK1
  refine wp_region_lit ?_
  refine vc_y hF rfl rfl (by decide) _ (y_assign rfl rfl) (fun a hF => ?_)
  refine vc_y hF rfl rfl (by decide) _ (y_assign rfl rfl) (fun a hF => ?_)
  refine vc_nil ?_
  refine hK1 _ _ ?_; clear  hK1 K1
  apply wp_seq_k; intro K2 hK2
  apply wp_seq_k; intro K3 hK3
  refine wp_region_lit ?_
  refine vc_y hF rfl rfl (by decide) _ (y_move rfl rfl) (fun a hF => ?_)
  refine vc_y hF rfl rfl (by decide) _ (y_lenStr rfl Try.underlying9 rfl (show ((ByteArray.mk s.toArray).size : Int) = (s.length : Int) from rfl)) (fun a hF => ?_)
  refine vc_y hF rfl rfl (by decide) _ (y_move rfl rfl) (fun a hF => ?_)
  refine vc_op rfl (fun K hK => ws_call hF rfl (by decide) cl103_rf rfl rfl ?_)
  with_reducible refine (rf_least w _ _ (by decide) ).mono ?_
  rintro e' w3 ⟨rfl, rfl⟩
  refine ⟨_, rfl, fun a hF => hK _ _ ?_⟩
  clear hK K
  refine vc_y hF rfl rfl (by decide) _ (y_cmp rfl rfl rfl rfl rfl) (fun a hF => ?_)
  refine vc_nil ?_
  refine hK3 _ _ ?_; clear  hK3 K3
  by_cases hlt : bnd most 65535 < (s.length : Int)
  · refine vc_trueB hF rfl (gtr_t (by omega)) ?_
    apply wp_seq_k; intro K4 hK4
    refine wp_region_lit ?_
    refine vc_y hF rfl rfl (by decide) _ (y_assign rfl rfl) (fun a hF => ?_)
    refine vc_y hF rfl rfl (by decide) _ (y_assign rfl rfl) (fun a hF => ?_)
    refine vc_nil ?_
    refine hK4 _ _ ?_; clear  hK4 K4
    apply wp_ret
    simp only [Exit.then]
    refine vc_ret2 hF Try.results79 rfl rfl ?_
    exact ⟨.slice none 0 0, [], by rw [textE, if_pos hlt]; rfl, by rw [textB, if_pos hlt]; exact Buf.nil _ _, Hp.nil hA⟩
  · refine vc_falseB hF rfl (gtr_f (by omega)) ?_
    apply wp_skip
    refine hK2 _ _ ?_; clear  hK2 K2
    apply wp_seq_k; intro K5 hK5
    refine wp_region_lit ?_
    refine vc_y hF rfl rfl (by decide) _ (y_move rfl rfl) (fun a hF => ?_)
    refine vc_y hF rfl rfl (by decide) _ (y_lenStr rfl Try.underlying9 rfl (show ((ByteArray.mk s.toArray).size : Int) = (s.length : Int) from rfl)) (fun a hF => ?_)
    refine vc_y hF rfl rfl (by decide) _ (y_conv rfl Try.underlying3 Try.underlying33 rfl (show IntKind.u64.wrap (s.length : Int) = (s.length : Int) by rw [IntKind.wrap_u64]; omega)) (fun a hF => ?_)
    refine vc_op rfl (fun K hK => ws_call hF rfl (by decide) cl104_rf rfl rfl ?_)
    with_reducible refine (rf_number w0 _ R (s.length) 2 _ 2 rfl rfl (by decide) hA ).mono ?_
    rintro e' w4 ⟨g, rfl, hA5⟩
    refine ⟨_, rfl, fun a hF => hK _ _ ?_⟩
    clear hK K
    replace hA5 : Hp w0 ([row g 5 (dc (be 2 (s.length)))] :: R) w4 := hA5
    have hO := Buf.full (e := 5) (g := g) (size := 1) (m := 2) (W := dc (be 2 (s.length))) (by rw [dc_length, be_length]) (by decide)
    refine vc_y hF rfl rfl (by decide) _ (y_move rfl rfl) (fun a hF => ?_)
    refine vc_op rfl (fun K hK => hs_append hF rfl (by decide) rfl hA5 0 rfl hO Try.underlying35 ow_elem5 rfl rfl (Src.ofString _ Try.underlying9 ⟨s.toArray⟩) (by rw [show (ByteArray.mk s.toArray).size = s.length from rfl]; omega) (by decide) (fun v2 X2 w6 a hO2 hF hA7 => hK _ _ ?_))
    clear hK K
    replace hA7 : Hp w0 (X2 :: R) w6 := hA7
    refine vc_y hF rfl rfl (by decide) _ (y_assign rfl rfl) (fun a hF => ?_)
    refine vc_y hF rfl rfl (by decide) _ (y_assign rfl rfl) (fun a hF => ?_)
    refine vc_nil ?_
    refine hK5 _ _ ?_; clear  hK5 K5
    apply wp_ret
    refine vc_ret2 hF Try.results79 rfl rfl ?_
    replace hO2 : Buf 5 1 X2 v2 (2 + s.length) (dc (be 2 s.length) ++ dc s) := hO2
    exact ⟨v2, X2, by rw [textE, if_neg hlt]; rfl, by rw [textB, if_neg hlt, List.length_append, be_length, dc_append]; exact hO2, hA7⟩

set_option maxRecDepth 100000 in
set_option maxHeartbeats 4000000 in
theorem rf_bytes (w0 w : World) (R : List Seg) (s : List UInt8) (A : Option Addr) (c : Nat) (hR : Rd w0 R A s) (most : Int) (hA : Hp w0 R w) (hl : s.length < 140737488353900) : Calls Try.prog 80 #[.slice A s.length c, .int .i64 most] w fun e w' => ∃ v' X, e = .returned (.tuple #[v', .int .i64 (bytesE s most : Nat)]) ∧ Buf 5 1 X v' (bytesB s most).length (dc (bytesB s most)) ∧ Hp w0 (X :: R) w' := by
  have hbl := bnd_le most 2147483647
  refine vc_enter Try.func80 rfl Try.ntmps80 (Nat.le_of_ble_eq_true rfl) (fun a hF => ?_)
  apply wp_seq_k; intro K1 hK1
  refine wp_region_lit ?_
  refine vc_y hF rfl rfl (by decide) _ (y_assign rfl rfl) (fun a hF => ?_)
  refine vc_y hF rfl rfl (by decide) _ (y_assign rfl rfl) (fun a hF => ?_)
  refine vc_nil ?_
  refine hK1 _ _ ?_; clear  hK1 K1
  apply wp_seq_k; intro K2 hK2
  apply wp_seq_k; intro K3 hK3
  refine wp_region_lit ?_
  refine vc_y hF rfl rfl (by decide) _ (y_move rfl rfl) (fun a hF => ?_)
  refine vc_y hF rfl rfl (by decide) _ (y_lenSl rfl Try.underlying35 rfl rfl) (fun a hF => ?_)
  refine vc_y hF rfl rfl (by decide) _ (y_move rfl rfl) (fun a hF => ?_)
  refine vc_op rfl (fun K hK => ws_call hF rfl (by decide) cl103_rf rfl rfl ?_)
  with_reducible refine (rf_least w _ _ (by decide) ).mono ?_
  rintro e' w3 ⟨rfl, rfl⟩
  refine ⟨_, rfl, fun a hF => hK _ _ ?_⟩
  clear hK K
  refine vc_y hF rfl rfl (by decide) _ (y_cmp rfl rfl rfl rfl rfl) (fun a hF => ?_)
  refine vc_nil ?_
  refine hK3 _ _ ?_; clear  hK3 K3
  by_cases hlt : bnd most 2147483647 < (s.length : Int)
  · refine vc_trueB hF rfl (gtr_t (by omega)) ?_
    apply wp_seq_k; intro K4 hK4
    refine wp_region_lit ?_
    refine vc_y hF rfl rfl (by decide) _ (y_assign rfl rfl) (fun a hF => ?_)
    refine vc_y hF rfl rfl (by decide) _ (y_assign rfl rfl) (fun a hF => ?_)
    refine vc_nil ?_
    refine hK4 _ _ ?_; clear  hK4 K4
    apply wp_ret
    simp only [Exit.then]
    refine vc_ret2 hF Try.results80 rfl rfl ?_
    exact ⟨.slice none 0 0, [], by rw [bytesE, if_pos hlt]; rfl, by rw [bytesB, if_pos hlt]; exact Buf.nil _ _, Hp.nil hA⟩
  · refine vc_falseB hF rfl (gtr_f (by omega)) ?_
    apply wp_skip
    refine hK2 _ _ ?_; clear  hK2 K2
    apply wp_seq_k; intro K5 hK5
    refine wp_region_lit ?_
    refine vc_y hF rfl rfl (by decide) _ (y_move rfl rfl) (fun a hF => ?_)
    refine vc_y hF rfl rfl (by decide) _ (y_lenSl rfl Try.underlying35 rfl rfl) (fun a hF => ?_)
    refine vc_y hF rfl rfl (by decide) _ (y_conv rfl Try.underlying3 Try.underlying33 rfl (show IntKind.u64.wrap (s.length : Int) = (s.length : Int) by rw [IntKind.wrap_u64]; omega)) (fun a hF => ?_)
    refine vc_op rfl (fun K hK => ws_call hF rfl (by decide) cl104_rf rfl rfl ?_)
    with_reducible refine (rf_number w0 _ R (s.length) 4 _ 4 rfl rfl (by decide) hA ).mono ?_
    rintro e' w4 ⟨g, rfl, hA5⟩
    refine ⟨_, rfl, fun a hF => hK _ _ ?_⟩
    clear hK K
    replace hA5 : Hp w0 ([row g 5 (dc (be 4 (s.length)))] :: R) w4 := hA5
    have hO := Buf.full (e := 5) (g := g) (size := 1) (m := 4) (W := dc (be 4 (s.length))) (by rw [dc_length, be_length]) (by decide)
    refine vc_y hF rfl rfl (by decide) _ (y_move rfl rfl) (fun a hF => ?_)
    refine vc_op rfl (fun K hK => hs_append hF rfl (by decide) rfl hA5 0 rfl hO Try.underlying35 ow_elem5 rfl rfl (Rc.src (hR.mono (fun _ h => List.mem_cons_of_mem _ h)) hA5.q Try.underlying35) (by omega) (by decide) (fun v2 X2 w6 a hO2 hF hA7 => hK _ _ ?_))
    clear hK K
    replace hA7 : Hp w0 (X2 :: R) w6 := hA7
    refine vc_y hF rfl rfl (by decide) _ (y_assign rfl rfl) (fun a hF => ?_)
    refine vc_y hF rfl rfl (by decide) _ (y_assign rfl rfl) (fun a hF => ?_)
    refine vc_nil ?_
    refine hK5 _ _ ?_; clear  hK5 K5
    apply wp_ret
    refine vc_ret2 hF Try.results80 rfl rfl ?_
    exact ⟨v2, X2, by rw [bytesE, if_neg hlt]; rfl, by rw [bytesB, if_neg hlt, List.length_append, be_length, dc_append]; exact hO2, hA7⟩

set_option maxRecDepth 100000 in
set_option maxHeartbeats 4000000 in
theorem rf_texts (w0 w : World) (R : List Seg) (pa : Option Addr) (ss : List (List UInt8)) (c : Nat) (hS : Rc w0 R pa (ss.map strV)) (most each : Int) (hA : Hp w0 R w) (hl : 2 + (tflat ss).length < 140737488353800) (hps : ss.length ≤ 9223372036854775807) : Calls Try.prog 81 #[.slice pa ss.length c, .int .i64 most, .int .i64 each] w fun e w' => ∃ v' X, e = .returned (.tuple #[v', .int .i64 (textsE ss most each : Nat)]) ∧ Buf 5 1 X v' (textsB ss most each).length (dc (textsB ss most each)) ∧ Hp w0 (X :: R) w' := by
  have hbm := bnd_le most 65535
  have hbe := bnd_le each 65535
  refine vc_enter Try.func81 rfl Try.ntmps81 (Nat.le_of_ble_eq_true rfl) (fun a hF => ?_)
  apply wp_seq_k; intro K1 hK1
  refine wp_region_lit ?_
  refine vc_y hF rfl rfl (by decide) _ (y_assign rfl rfl) (fun a hF => ?_)
  refine vc_y hF rfl rfl (by decide) _ (y_assign rfl rfl) (fun a hF => ?_)
  refine vc_nil ?_
  refine hK1 _ _ ?_; clear  hK1 K1
  apply wp_seq_k; intro K2 hK2
  apply wp_seq_k; intro K3 hK3
  refine wp_region_lit ?_
  refine vc_y hF rfl rfl (by decide) _ (y_move rfl rfl) (fun a hF => ?_)
  refine vc_y hF rfl rfl (by decide) _ (y_lenSl rfl Try.underlying36 rfl rfl) (fun a hF => ?_)
  refine vc_y hF rfl rfl (by decide) _ (y_move rfl rfl) (fun a hF => ?_)
  refine vc_op rfl (fun K hK => ws_call hF rfl (by decide) cl103_rf rfl rfl ?_)
  with_reducible refine (rf_least w _ _ (by decide) ).mono ?_
  rintro e' w3 ⟨rfl, rfl⟩
  refine ⟨_, rfl, fun a hF => hK _ _ ?_⟩
  clear hK K
  refine vc_y hF rfl rfl (by decide) _ (y_cmp rfl rfl rfl rfl rfl) (fun a hF => ?_)
  refine vc_nil ?_
  refine hK3 _ _ ?_; clear  hK3 K3
  by_cases h7 : bnd most 65535 < (ss.length : Int)
  · refine vc_trueB hF rfl (gtr_t (by omega)) ?_
    apply wp_seq_k; intro K4 hK4
    refine wp_region_lit ?_
    refine vc_y hF rfl rfl (by decide) _ (y_assign rfl rfl) (fun a hF => ?_)
    refine vc_y hF rfl rfl (by decide) _ (y_assign rfl rfl) (fun a hF => ?_)
    refine vc_nil ?_
    refine hK4 _ _ ?_; clear  hK4 K4
    apply wp_ret
    simp only [Exit.then]
    refine vc_ret2 hF Try.results81 rfl rfl ?_
    exact ⟨.slice none 0 0, [], by rw [textsE, if_pos h7]; rfl, by rw [textsB, textsE, if_pos h7, if_neg (by decide)]; exact Buf.nil _ _, Hp.nil hA⟩
  · refine vc_falseB hF rfl (gtr_f (by omega)) ?_
    have hE : textsE ss most each = firstE (textsAt ss each) 0 ss.length := by rw [textsE, if_neg h7]
    apply wp_skip
    refine hK2 _ _ ?_; clear  hK2 K2
    apply wp_seq_k; intro K5 hK5
    refine wp_region_lit ?_
    refine vc_y hF rfl rfl (by decide) _ (y_move rfl rfl) (fun a hF => ?_)
    refine vc_y hF rfl rfl (by decide) _ (y_lenSl rfl Try.underlying36 rfl rfl) (fun a hF => ?_)
    refine vc_y hF rfl rfl (by decide) _ (y_conv rfl Try.underlying3 Try.underlying33 rfl (show IntKind.u64.wrap (ss.length : Int) = (ss.length : Int) by rw [IntKind.wrap_u64]; omega)) (fun a hF => ?_)
    refine vc_op rfl (fun K hK => ws_call hF rfl (by decide) cl104_rf rfl rfl ?_)
    with_reducible refine (rf_number w0 _ R (ss.length) 2 _ 2 rfl rfl (by decide) hA ).mono ?_
    rintro e' w4 ⟨g, rfl, hA5⟩
    refine ⟨_, rfl, fun a hF => hK _ _ ?_⟩
    clear hK K
    replace hA5 : Hp w0 ([row g 5 (dc (be 2 (ss.length)))] :: R) w4 := hA5
    have hO := Buf.full (e := 5) (g := g) (size := 1) (m := 2) (W := dc (be 2 (ss.length))) (by rw [dc_length, be_length]) (by decide)
    refine vc_y hF rfl rfl (by decide) _ (y_assign rfl rfl) (fun a hF => ?_)
    refine vc_nil ?_
    refine hK5 _ _ ?_; clear  hK5 K5
    apply wp_seq_k; intro K6 hK6
    apply wp_seq_k; intro K7 hK7
    refine wp_region_lit ?_
    refine vc_y hF rfl rfl (by decide) _ (y_assign rfl rfl) (fun a hF => ?_)
    refine vc_nil ?_
    refine hK7 _ _ ?_; clear  hK7 K7
    apply wp_block
    refine vc_loop (G := Nat) (fun i a x => ∃ (v3 : Value) (X3 : Seg), i ≤ ss.length ∧ textsE ss most each = firstE (textsAt ss each) i (ss.length - i) ∧ Buf 5 1 X3 v3 (be 2 ss.length ++ tflat (ss.take i)).length (dc (be 2 ss.length ++ tflat (ss.take i))) ∧ Fr 61 [(9, .int .i64 (i : Int)), (8, v3), (0, .slice pa ss.length c), (1, .int .i64 most), (2, .int .i64 each)] a ∧ Hp w0 (X3 :: R) x) (fun i => ss.length - i) 0 (⟨.slice (some ⟨g, 0, none⟩) 2 2, _, Nat.zero_le _, hE, by rw [List.take_zero, tflat_nil, List.append_nil, be_length]; exact hO, hF.keep [9, 8, 0, 1, 2] rfl, hA5⟩) ?_
    clear hF
    rintro i a w7 ⟨v3, X3, hi, hE, hB, hF, hA6⟩
    apply wp_seq_k; intro K8 hK8
    apply wp_seq_k; intro K9 hK9
    refine wp_region_lit ?_
    refine vc_y hF rfl rfl (by decide) _ (y_move rfl rfl) (fun a hF => ?_)
    refine vc_y hF rfl rfl (by decide) _ (y_move rfl rfl) (fun a hF => ?_)
    refine vc_y hF rfl rfl (by decide) _ (y_lenSl rfl Try.underlying36 rfl rfl) (fun a hF => ?_)
    refine vc_y hF rfl rfl (by decide) _ (y_cmp rfl rfl rfl rfl rfl) (fun a hF => ?_)
    refine vc_nil ?_
    refine hK9 _ _ ?_; clear  hK9 K9
    by_cases hlt : i < ss.length
    · refine vc_trueB hF rfl (lss_t (by omega)) ?_
      obtain ⟨q, hp⟩ : ∃ q, ss[i]? = some q := ⟨_, List.getElem?_eq_getElem hlt⟩
      obtain ⟨b, o, rfl, hc⟩ := hS.ne (i := i) (by rw [List.length_map]; exact hlt)
      have hq : ss.getD i [] = q := by rw [List.getD_eq_getElem?_getD, hp]; rfl
      have hft := tflat_take hp
      have hfle := tflat_le hp
      rw [show ss.length - i = (ss.length - (i + 1)) + 1 by omega, firstE, textsAt, hq] at hE
      by_cases h6 : bnd each 65535 < (q.length : Int)
      · apply wp_skip
        refine hK8 _ _ ?_; clear  hK8 K8
        apply wp_seq_k; intro K10 hK10
        apply wp_block
        apply wp_seq_k; intro K11 hK11
        refine wp_region_lit ?_
        refine vc_y hF rfl rfl (by decide) _ (y_move rfl rfl) (fun a hF => ?_)
        refine vc_y hF rfl rfl (by decide) _ (y_move rfl rfl) (fun a hF => ?_)
        refine vc_y hF rfl rfl (by decide) _ (y_ixSl rfl Try.underlying36 sz9_rf rfl rfl i rfl hlt (ad2 _ _ _)) (fun a hF => ?_)
        refine vc_y hF rfl rfl (by decide) _ (y_ldC (u := strV q) rfl (Hq.sub hA6.q (subC (sub0))) rfl hc i (by rw [List.length_map]; exact hlt) rfl (by rw [List.getElem?_map, hp]; rfl) nr9_rf) (fun a hF => ?_)
        refine vc_y hF rfl rfl (by decide) _ (y_move rfl rfl) (fun a hF => ?_)
        refine vc_op rfl (fun K hK => ws_call hF rfl (by decide) cl79_rf rfl rfl ?_)
        with_reducible refine (rf_text w0 _ (X3 :: R) q each hA6 (by omega) ).mono ?_
        rintro e' w8 ⟨vT, XT, rfl, hT, hA9⟩
        refine ⟨_, rfl, fun a hF => hK _ _ ?_⟩
        clear hK K
        replace hA9 : Hp w0 (XT :: X3 :: R) w8 := hA9
        rw [show textE q each = 6 by rw [textE, if_pos h6]] at hF
        refine vc_y hF rfl rfl (by decide) _ (y_move rfl rfl) (fun a hF => ?_)
        refine vc_y hF rfl rfl (by decide) _ (y_extract (v := vT) rfl rfl rfl) (fun a hF => ?_)
        refine vc_y hF rfl rfl (by decide) _ (y_extract (v := .int .i64 ((6 : Nat) : Int)) rfl rfl rfl) (fun a hF => ?_)
        refine vc_y hF rfl rfl (by decide) _ (y_assign rfl rfl) (fun a hF => ?_)
        refine vc_y hF rfl rfl (by decide) _ (y_assign rfl rfl) (fun a hF => ?_)
        refine vc_nil ?_
        refine hK11 _ _ ?_; clear  hK11 K11
        apply wp_seq_k; intro K12 hK12
        apply wp_seq_k; intro K13 hK13
        refine wp_region_plan 17 [17] [0,1,2,3,4,5,6,7,8,9,10,11,12,13,14,15,16,17] (fun x => Hq w0 (XT :: X3 :: R) x) (by kernel_rfl) (by kernel_rfl) (Hq.drew (Hp.qp [XT, X3] R [0, 1] hA9)) ?_
        have hA10 := Hl.drew hA9
        refine vp_y hF rfl rfl rfl rfl (by decide) _ (fun x hx => y_move rfl rfl) (fun a hF => ?_)
        refine vp_y hF rfl rfl rfl rfl (by decide) _ (fun x hx => y_cmp rfl rfl rfl rfl (rfl)) (fun a hF => ?_)
        refine vp_y hF rfl rfl rfl rfl (by decide) _ (fun x hx => y_move rfl rfl) (fun a hF => ?_)
        refine vp_skip hF rfl rfl rfl rfl rfl rfl rfl rfl (by decide) (fun a hF => ?_)
        refine vp_skip hF rfl rfl rfl rfl rfl rfl rfl rfl (by decide) (fun a hF => ?_)
        refine vp_y hF rfl rfl rfl rfl (by decide) _ (fun x hx => y_pick rfl rfl rfl) (fun a hF => ?_)
        refine vp_y hF rfl rfl rfl rfl (by decide) _ (fun x hx => y_move rfl rfl) (fun a hF => ?_)
        refine vp_skip hF rfl rfl rfl rfl rfl rfl rfl rfl (by decide) (fun a hF => ?_)
        refine vp_skip hF rfl rfl rfl rfl rfl rfl rfl rfl (by decide) (fun a hF => ?_)
        refine vp_skip hF rfl rfl rfl rfl rfl rfl rfl rfl (by decide) (fun a hF => ?_)
        refine vp_skip hF rfl rfl rfl rfl rfl rfl rfl rfl (by decide) (fun a hF => ?_)
        refine vp_skip hF rfl rfl rfl rfl rfl rfl rfl rfl (by decide) (fun a hF => ?_)
        refine vp_skip hF rfl rfl rfl rfl rfl rfl rfl rfl (by decide) (fun a hF => ?_)
        refine vp_skip hF rfl rfl rfl rfl rfl rfl rfl rfl (by decide) (fun a hF => ?_)
        refine vp_skip hF rfl rfl rfl rfl rfl rfl rfl rfl (by decide) (fun a hF => ?_)
        refine vp_skip hF rfl rfl rfl rfl rfl rfl rfl rfl (by decide) (fun a hF => ?_)
        refine vp_skip hF rfl rfl rfl rfl rfl rfl rfl rfl (by decide) (fun a hF => ?_)
        refine vp_ly hF rfl rfl rfl rfl (by decide) _ (y_pick rfl rfl rfl) (fun h => absurd h (by decide)) (fun a hF => ?_)
        refine plan_end ?_
        refine hK13 _ _ ?_; clear  hK13 K13
        refine vc_false hF rfl ?_
        apply wp_skip
        refine hK12 _ _ ?_; clear  hK12 K12
        apply wp_seq_k; intro K14 hK14
        apply wp_seq_k; intro K15 hK15
        refine wp_region_lit ?_
        refine vc_y hF rfl rfl (by decide) _ (y_move rfl rfl) (fun a hF => ?_)
        refine vc_y hF rfl rfl (by decide) _ (y_cmp rfl rfl rfl rfl (rfl)) (fun a hF => ?_)
        refine vc_nil ?_
        refine hK15 _ _ ?_; clear  hK15 K15
        refine vc_true hF rfl ?_
        apply wp_seq_k; intro K16 hK16
        refine wp_region_lit ?_
        refine vc_y hF rfl rfl (by decide) _ (y_move rfl rfl) (fun a hF => ?_)
        refine vc_y hF rfl rfl (by decide) _ (y_assign rfl rfl) (fun a hF => ?_)
        refine vc_y hF rfl rfl (by decide) _ (y_assign rfl rfl) (fun a hF => ?_)
        refine vc_nil ?_
        refine hK16 _ _ ?_; clear  hK16 K16
        apply wp_ret
        simp only [Exit.then, Exit.inBlock]
        refine vc_ret2 hF Try.results81 rfl rfl ?_
        have hA11 : Hp w0 (R) w8.drew := Hp.sel [XT, X3] R [] [0, 1] hA10 rfl
        rw [if_pos h6, if_neg (by decide)] at hE
        exact ⟨.slice none 0 0, [], by first | (rw [hE]; done) | (rw [hE]; rfl), by rw [textsB, hE, if_neg (by decide)]; exact Buf.nil _ _, Hp.nil hA11⟩
      · rw [if_neg h6] at hE
        have hTB : textB q each = be 2 q.length ++ q := by rw [textB, if_neg h6]
        by_cases hi0 : i = 0
        · rw [if_neg (show ¬(0 < i ∧ _) from fun h => by omega)] at hE
          rw [if_pos rfl] at hE
          apply wp_skip
          refine hK8 _ _ ?_; clear  hK8 K8
          apply wp_seq_k; intro K17 hK17
          apply wp_block
          apply wp_seq_k; intro K18 hK18
          refine wp_region_lit ?_
          refine vc_y hF rfl rfl (by decide) _ (y_move rfl rfl) (fun a hF => ?_)
          refine vc_y hF rfl rfl (by decide) _ (y_move rfl rfl) (fun a hF => ?_)
          refine vc_y hF rfl rfl (by decide) _ (y_ixSl rfl Try.underlying36 sz9_rf rfl rfl i rfl hlt (ad2 _ _ _)) (fun a hF => ?_)
          refine vc_y hF rfl rfl (by decide) _ (y_ldC (u := strV q) rfl (Hq.sub hA6.q (subC (sub0))) rfl hc i (by rw [List.length_map]; exact hlt) rfl (by rw [List.getElem?_map, hp]; rfl) nr9_rf) (fun a hF => ?_)
          refine vc_y hF rfl rfl (by decide) _ (y_move rfl rfl) (fun a hF => ?_)
          refine vc_op rfl (fun K hK => ws_call hF rfl (by decide) cl79_rf rfl rfl ?_)
          with_reducible refine (rf_text w0 _ (X3 :: R) q each hA6 (by omega) ).mono ?_
          rintro e' w12 ⟨vT, XT, rfl, hT, hA13⟩
          refine ⟨_, rfl, fun a hF => hK _ _ ?_⟩
          clear hK K
          replace hA13 : Hp w0 (XT :: X3 :: R) w12 := hA13
          rw [show textE q each = 0 by rw [textE, if_neg h6]] at hF
          refine vc_y hF rfl rfl (by decide) _ (y_move rfl rfl) (fun a hF => ?_)
          refine vc_y hF rfl rfl (by decide) _ (y_extract (v := vT) rfl rfl rfl) (fun a hF => ?_)
          refine vc_y hF rfl rfl (by decide) _ (y_extract (v := .int .i64 ((0 : Nat) : Int)) rfl rfl rfl) (fun a hF => ?_)
          refine vc_y hF rfl rfl (by decide) _ (y_assign rfl rfl) (fun a hF => ?_)
          refine vc_y hF rfl rfl (by decide) _ (y_assign rfl rfl) (fun a hF => ?_)
          refine vc_nil ?_
          refine hK18 _ _ ?_; clear  hK18 K18
          apply wp_seq_k; intro K19 hK19
          apply wp_seq_k; intro K20 hK20
          refine wp_region_plan 17 [17] [0,1,2,3,4,5,6,7,8,9,10,11,12,13,14,15,16,17] (fun x => Hq w0 (XT :: X3 :: R) x) (by kernel_rfl) (by kernel_rfl) (Hq.drew (Hp.qp [XT, X3] R [0, 1] hA13)) ?_
          have hA14 := Hl.drew hA13
          refine vp_y hF rfl rfl rfl rfl (by decide) _ (fun x hx => y_move rfl rfl) (fun a hF => ?_)
          refine vp_y hF rfl rfl rfl rfl (by decide) _ (fun x hx => y_cmp rfl rfl rfl rfl (rfl)) (fun a hF => ?_)
          refine vp_y hF rfl rfl rfl rfl (by decide) _ (fun x hx => y_move rfl rfl) (fun a hF => ?_)
          refine vp_yg hF rfl rfl rfl rfl rfl rfl rfl (by decide) _ (fun x hx => y_move rfl rfl) (fun a hF => ?_)
          refine vp_yg hF rfl rfl rfl rfl rfl rfl rfl (by decide) _ (fun x hx => y_cmp rfl rfl rfl rfl (gtr_f (by omega))) (fun a hF => ?_)
          refine vp_y hF rfl rfl rfl rfl (by decide) _ (fun x hx => y_pick rfl rfl rfl) (fun a hF => ?_)
          refine vp_y hF rfl rfl rfl rfl (by decide) _ (fun x hx => y_move rfl rfl) (fun a hF => ?_)
          refine vp_skip hF rfl rfl rfl rfl rfl rfl rfl rfl (by decide) (fun a hF => ?_)
          refine vp_skip hF rfl rfl rfl rfl rfl rfl rfl rfl (by decide) (fun a hF => ?_)
          refine vp_skip hF rfl rfl rfl rfl rfl rfl rfl rfl (by decide) (fun a hF => ?_)
          refine vp_skip hF rfl rfl rfl rfl rfl rfl rfl rfl (by decide) (fun a hF => ?_)
          refine vp_skip hF rfl rfl rfl rfl rfl rfl rfl rfl (by decide) (fun a hF => ?_)
          refine vp_skip hF rfl rfl rfl rfl rfl rfl rfl rfl (by decide) (fun a hF => ?_)
          refine vp_skip hF rfl rfl rfl rfl rfl rfl rfl rfl (by decide) (fun a hF => ?_)
          refine vp_skip hF rfl rfl rfl rfl rfl rfl rfl rfl (by decide) (fun a hF => ?_)
          refine vp_skip hF rfl rfl rfl rfl rfl rfl rfl rfl (by decide) (fun a hF => ?_)
          refine vp_skip hF rfl rfl rfl rfl rfl rfl rfl rfl (by decide) (fun a hF => ?_)
          refine vp_ly hF rfl rfl rfl rfl (by decide) _ (y_pick rfl rfl rfl) (fun h => absurd h (by decide)) (fun a hF => ?_)
          refine plan_end ?_
          refine hK20 _ _ ?_; clear  hK20 K20
          refine vc_false hF rfl ?_
          apply wp_skip
          refine hK19 _ _ ?_; clear  hK19 K19
          apply wp_seq_k; intro K21 hK21
          apply wp_seq_k; intro K22 hK22
          refine wp_region_lit ?_
          refine vc_y hF rfl rfl (by decide) _ (y_move rfl rfl) (fun a hF => ?_)
          refine vc_y hF rfl rfl (by decide) _ (y_cmp rfl rfl rfl rfl (rfl)) (fun a hF => ?_)
          refine vc_nil ?_
          refine hK22 _ _ ?_; clear  hK22 K22
          refine vc_false hF rfl ?_
          apply wp_skip
          refine hK21 _ _ ?_; clear  hK21 K21
          refine wp_region_lit ?_
          refine vc_y hF rfl rfl (by decide) _ (y_move rfl rfl) (fun a hF => ?_)
          refine vc_y hF rfl rfl (by decide) _ (y_move rfl rfl) (fun a hF => ?_)
          rw [hTB] at hT
          obtain ⟨_, AT, cT, rfl, _, hRT⟩ := hT.rd (w0 := w0) (R := [XT]) (List.mem_cons_self ..)
          refine vc_op rfl (fun K hK => hs_append hF rfl (by decide) rfl hA14 1 rfl hB Try.underlying35 ow_elem5 rfl rfl (Rc.src (hRT.mono (fun x hx => by rw [List.mem_singleton] at hx; subst hx; simp)) hA14.q Try.underlying35) (by simp only [List.length_append, be_length]; omega) (by decide) (fun v4 X4 w15 a hB4 hF hA16 => hK _ _ ?_))
          clear hK K
          replace hA16 : Hp w0 (XT :: X4 :: R) w15 := hA16
          refine vc_y hF rfl rfl (by decide) _ (y_assign rfl rfl) (fun a hF => ?_)
          refine vc_nil ?_
          refine hK17 _ _ ?_; clear  hK17 K17
          refine wp_region_lit ?_
          refine vc_y hF rfl rfl (by decide) _ (y_move rfl rfl) (fun a hF => ?_)
          refine vc_y hF rfl rfl (by decide) _ (y_add rfl rfl rfl (IntWalk.i64_in _ (by omega))) (fun a hF => ?_)
          refine vc_y hF rfl rfl (by decide) _ (y_assign rfl rfl) (fun a hF => ?_)
          refine vc_nil ?_
          rw [← dc_append, ← List.length_append, List.append_assoc, ← hft] at hB4
          have hA17 : Hp w0 (X4 :: R) w15 := Hp.sel [XT, X4] R [1] [0] hA16 rfl
          exact ⟨i + 1, by omega, v4, X4, by omega, hE, hB4, hF.keep [9, 8, 0, 1, 2] rfl, hA17⟩
        · obtain ⟨q0, hp0⟩ : ∃ q0, ss[i - 1]? = some q0 := ⟨_, List.getElem?_eq_getElem (by omega)⟩
          have hq0 : ss.getD (i - 1) [] = q0 := by rw [List.getD_eq_getElem?_getD, hp0]; rfl
          rw [hq0] at hE
          by_cases hge : strB .geq q0 q = true
          · apply wp_skip
            refine hK8 _ _ ?_; clear  hK8 K8
            apply wp_seq_k; intro K23 hK23
            apply wp_block
            apply wp_seq_k; intro K24 hK24
            refine wp_region_lit ?_
            refine vc_y hF rfl rfl (by decide) _ (y_move rfl rfl) (fun a hF => ?_)
            refine vc_y hF rfl rfl (by decide) _ (y_move rfl rfl) (fun a hF => ?_)
            refine vc_y hF rfl rfl (by decide) _ (y_ixSl rfl Try.underlying36 sz9_rf rfl rfl i rfl hlt (ad2 _ _ _)) (fun a hF => ?_)
            refine vc_y hF rfl rfl (by decide) _ (y_ldC (u := strV q) rfl (Hq.sub hA6.q (subC (sub0))) rfl hc i (by rw [List.length_map]; exact hlt) rfl (by rw [List.getElem?_map, hp]; rfl) nr9_rf) (fun a hF => ?_)
            refine vc_y hF rfl rfl (by decide) _ (y_move rfl rfl) (fun a hF => ?_)
            refine vc_op rfl (fun K hK => ws_call hF rfl (by decide) cl79_rf rfl rfl ?_)
            with_reducible refine (rf_text w0 _ (X3 :: R) q each hA6 (by omega) ).mono ?_
            rintro e' w18 ⟨vT, XT, rfl, hT, hA19⟩
            refine ⟨_, rfl, fun a hF => hK _ _ ?_⟩
            clear hK K
            replace hA19 : Hp w0 (XT :: X3 :: R) w18 := hA19
            rw [show textE q each = 0 by rw [textE, if_neg h6]] at hF
            refine vc_y hF rfl rfl (by decide) _ (y_move rfl rfl) (fun a hF => ?_)
            refine vc_y hF rfl rfl (by decide) _ (y_extract (v := vT) rfl rfl rfl) (fun a hF => ?_)
            refine vc_y hF rfl rfl (by decide) _ (y_extract (v := .int .i64 ((0 : Nat) : Int)) rfl rfl rfl) (fun a hF => ?_)
            refine vc_y hF rfl rfl (by decide) _ (y_assign rfl rfl) (fun a hF => ?_)
            refine vc_y hF rfl rfl (by decide) _ (y_assign rfl rfl) (fun a hF => ?_)
            refine vc_nil ?_
            refine hK24 _ _ ?_; clear  hK24 K24
            apply wp_seq_k; intro K25 hK25
            apply wp_seq_k; intro K26 hK26
            refine wp_region_plan 17 [17] [0,1,2,3,4,5,6,7,8,9,10,11,12,13,14,15,16,17] (fun x => Hq w0 (XT :: X3 :: R) x) (by kernel_rfl) (by kernel_rfl) (Hq.drew (Hp.qp [XT, X3] R [0, 1] hA19)) ?_
            have hA20 := Hl.drew hA19
            refine vp_y hF rfl rfl rfl rfl (by decide) _ (fun x hx => y_move rfl rfl) (fun a hF => ?_)
            refine vp_y hF rfl rfl rfl rfl (by decide) _ (fun x hx => y_cmp rfl rfl rfl rfl (rfl)) (fun a hF => ?_)
            refine vp_y hF rfl rfl rfl rfl (by decide) _ (fun x hx => y_move rfl rfl) (fun a hF => ?_)
            refine vp_yg hF rfl rfl rfl rfl rfl rfl rfl (by decide) _ (fun x hx => y_move rfl rfl) (fun a hF => ?_)
            refine vp_yg hF rfl rfl rfl rfl rfl rfl rfl (by decide) _ (fun x hx => y_cmp rfl rfl rfl rfl (gtr_t (by omega))) (fun a hF => ?_)
            refine vp_y hF rfl rfl rfl rfl (by decide) _ (fun x hx => y_pick rfl rfl rfl) (fun a hF => ?_)
            refine vp_y hF rfl rfl rfl rfl (by decide) _ (fun x hx => y_move rfl rfl) (fun a hF => ?_)
            refine vp_yg hF rfl rfl rfl rfl rfl rfl rfl (by decide) _ (fun x hx => y_move rfl rfl) (fun a hF => ?_)
            refine vp_yg hF rfl rfl rfl rfl rfl rfl rfl (by decide) _ (fun x hx => y_move rfl rfl) (fun a hF => ?_)
            refine vp_yg hF rfl rfl rfl rfl rfl rfl rfl (by decide) _ (fun x hx => y_ixSl rfl Try.underlying36 sz9_rf rfl rfl i rfl hlt (ad2 _ _ _)) (fun a hF => ?_)
            refine vp_yg hF rfl rfl rfl rfl rfl rfl rfl (by decide) _ (fun x hx => y_ldC (u := strV q) rfl (Hq.sub hx (subC (subC (sub0)))) rfl hc i (by rw [List.length_map]; exact hlt) rfl (by rw [List.getElem?_map, hp]; rfl) nr9_rf) (fun a hF => ?_)
            refine vp_yg hF rfl rfl rfl rfl rfl rfl rfl (by decide) _ (fun x hx => y_move rfl rfl) (fun a hF => ?_)
            refine vp_yg hF rfl rfl rfl rfl rfl rfl rfl (by decide) _ (fun x hx => y_move rfl rfl) (fun a hF => ?_)
            refine vp_yg hF rfl rfl rfl rfl rfl rfl rfl (by decide) _ (fun x hx => y_sub (r := ((i - 1 : Nat) : Int)) rfl rfl rfl (by rw [IntWalk.i64_in _ (by omega)]; omega)) (fun a hF => ?_)
            refine vp_yg hF rfl rfl rfl rfl rfl rfl rfl (by decide) _ (fun x hx => y_ixSl rfl Try.underlying36 sz9_rf rfl rfl (i - 1) rfl (by omega) (ad2 _ _ _)) (fun a hF => ?_)
            refine vp_yg hF rfl rfl rfl rfl rfl rfl rfl (by decide) _ (fun x hx => y_ldC (u := strV q0) rfl (Hq.sub hx (subC (subC (sub0)))) rfl hc (i - 1) (by rw [List.length_map]; omega) rfl (by rw [List.getElem?_map, hp0]; rfl) nr9_rf) (fun a hF => ?_)
            refine vp_yg hF rfl rfl rfl rfl rfl rfl rfl (by decide) _ (fun x hx => y_cmpS rfl rfl rfl rfl (((strB_leq _ _).trans hge))) (fun a hF => ?_)
            refine vp_ly hF rfl rfl rfl rfl (by decide) _ (y_pick rfl rfl rfl) (fun h => absurd h (by decide)) (fun a hF => ?_)
            refine plan_end ?_
            refine hK26 _ _ ?_; clear  hK26 K26
            refine vc_true hF rfl ?_
            refine wp_region_lit ?_
            refine vc_y hF rfl rfl (by decide) _ (y_assign rfl rfl) (fun a hF => ?_)
            refine vc_nil ?_
            refine hK25 _ _ ?_; clear  hK25 K25
            apply wp_seq_k; intro K27 hK27
            apply wp_seq_k; intro K28 hK28
            refine wp_region_lit ?_
            refine vc_y hF rfl rfl (by decide) _ (y_move rfl rfl) (fun a hF => ?_)
            refine vc_y hF rfl rfl (by decide) _ (y_cmp rfl rfl rfl rfl (rfl)) (fun a hF => ?_)
            refine vc_nil ?_
            refine hK28 _ _ ?_; clear  hK28 K28
            refine vc_true hF rfl ?_
            apply wp_seq_k; intro K29 hK29
            refine wp_region_lit ?_
            refine vc_y hF rfl rfl (by decide) _ (y_move rfl rfl) (fun a hF => ?_)
            refine vc_y hF rfl rfl (by decide) _ (y_assign rfl rfl) (fun a hF => ?_)
            refine vc_y hF rfl rfl (by decide) _ (y_assign rfl rfl) (fun a hF => ?_)
            refine vc_nil ?_
            refine hK29 _ _ ?_; clear  hK29 K29
            apply wp_ret
            simp only [Exit.then, Exit.inBlock]
            refine vc_ret2 hF Try.results81 rfl rfl ?_
            have hA21 : Hp w0 (R) w18.drew := Hp.sel [XT, X3] R [] [0, 1] hA20 rfl
            rw [if_pos (show 0 < i ∧ strB .geq q0 q = true from ⟨by omega, hge⟩), if_neg (by decide)] at hE
            exact ⟨.slice none 0 0, [], by first | (rw [hE]; done) | (rw [hE]; rfl), by rw [textsB, hE, if_neg (by decide)]; exact Buf.nil _ _, Hp.nil hA21⟩
          · replace hge : strB .geq q0 q = false := by simpa using hge
            rw [if_neg (show ¬(0 < i ∧ strB .geq q0 q = true) from fun h => by rw [hge] at h; exact absurd h.2 (by decide))] at hE
            rw [if_pos rfl] at hE
            apply wp_skip
            refine hK8 _ _ ?_; clear  hK8 K8
            apply wp_seq_k; intro K30 hK30
            apply wp_block
            apply wp_seq_k; intro K31 hK31
            refine wp_region_lit ?_
            refine vc_y hF rfl rfl (by decide) _ (y_move rfl rfl) (fun a hF => ?_)
            refine vc_y hF rfl rfl (by decide) _ (y_move rfl rfl) (fun a hF => ?_)
            refine vc_y hF rfl rfl (by decide) _ (y_ixSl rfl Try.underlying36 sz9_rf rfl rfl i rfl hlt (ad2 _ _ _)) (fun a hF => ?_)
            refine vc_y hF rfl rfl (by decide) _ (y_ldC (u := strV q) rfl (Hq.sub hA6.q (subC (sub0))) rfl hc i (by rw [List.length_map]; exact hlt) rfl (by rw [List.getElem?_map, hp]; rfl) nr9_rf) (fun a hF => ?_)
            refine vc_y hF rfl rfl (by decide) _ (y_move rfl rfl) (fun a hF => ?_)
            refine vc_op rfl (fun K hK => ws_call hF rfl (by decide) cl79_rf rfl rfl ?_)
            with_reducible refine (rf_text w0 _ (X3 :: R) q each hA6 (by omega) ).mono ?_
            rintro e' w22 ⟨vT, XT, rfl, hT, hA23⟩
            refine ⟨_, rfl, fun a hF => hK _ _ ?_⟩
            clear hK K
            replace hA23 : Hp w0 (XT :: X3 :: R) w22 := hA23
            rw [show textE q each = 0 by rw [textE, if_neg h6]] at hF
            refine vc_y hF rfl rfl (by decide) _ (y_move rfl rfl) (fun a hF => ?_)
            refine vc_y hF rfl rfl (by decide) _ (y_extract (v := vT) rfl rfl rfl) (fun a hF => ?_)
            refine vc_y hF rfl rfl (by decide) _ (y_extract (v := .int .i64 ((0 : Nat) : Int)) rfl rfl rfl) (fun a hF => ?_)
            refine vc_y hF rfl rfl (by decide) _ (y_assign rfl rfl) (fun a hF => ?_)
            refine vc_y hF rfl rfl (by decide) _ (y_assign rfl rfl) (fun a hF => ?_)
            refine vc_nil ?_
            refine hK31 _ _ ?_; clear  hK31 K31
            apply wp_seq_k; intro K32 hK32
            apply wp_seq_k; intro K33 hK33
            refine wp_region_plan 17 [17] [0,1,2,3,4,5,6,7,8,9,10,11,12,13,14,15,16,17] (fun x => Hq w0 (XT :: X3 :: R) x) (by kernel_rfl) (by kernel_rfl) (Hq.drew (Hp.qp [XT, X3] R [0, 1] hA23)) ?_
            have hA24 := Hl.drew hA23
            refine vp_y hF rfl rfl rfl rfl (by decide) _ (fun x hx => y_move rfl rfl) (fun a hF => ?_)
            refine vp_y hF rfl rfl rfl rfl (by decide) _ (fun x hx => y_cmp rfl rfl rfl rfl (rfl)) (fun a hF => ?_)
            refine vp_y hF rfl rfl rfl rfl (by decide) _ (fun x hx => y_move rfl rfl) (fun a hF => ?_)
            refine vp_yg hF rfl rfl rfl rfl rfl rfl rfl (by decide) _ (fun x hx => y_move rfl rfl) (fun a hF => ?_)
            refine vp_yg hF rfl rfl rfl rfl rfl rfl rfl (by decide) _ (fun x hx => y_cmp rfl rfl rfl rfl (gtr_t (by omega))) (fun a hF => ?_)
            refine vp_y hF rfl rfl rfl rfl (by decide) _ (fun x hx => y_pick rfl rfl rfl) (fun a hF => ?_)
            refine vp_y hF rfl rfl rfl rfl (by decide) _ (fun x hx => y_move rfl rfl) (fun a hF => ?_)
            refine vp_yg hF rfl rfl rfl rfl rfl rfl rfl (by decide) _ (fun x hx => y_move rfl rfl) (fun a hF => ?_)
            refine vp_yg hF rfl rfl rfl rfl rfl rfl rfl (by decide) _ (fun x hx => y_move rfl rfl) (fun a hF => ?_)
            refine vp_yg hF rfl rfl rfl rfl rfl rfl rfl (by decide) _ (fun x hx => y_ixSl rfl Try.underlying36 sz9_rf rfl rfl i rfl hlt (ad2 _ _ _)) (fun a hF => ?_)
            refine vp_yg hF rfl rfl rfl rfl rfl rfl rfl (by decide) _ (fun x hx => y_ldC (u := strV q) rfl (Hq.sub hx (subC (subC (sub0)))) rfl hc i (by rw [List.length_map]; exact hlt) rfl (by rw [List.getElem?_map, hp]; rfl) nr9_rf) (fun a hF => ?_)
            refine vp_yg hF rfl rfl rfl rfl rfl rfl rfl (by decide) _ (fun x hx => y_move rfl rfl) (fun a hF => ?_)
            refine vp_yg hF rfl rfl rfl rfl rfl rfl rfl (by decide) _ (fun x hx => y_move rfl rfl) (fun a hF => ?_)
            refine vp_yg hF rfl rfl rfl rfl rfl rfl rfl (by decide) _ (fun x hx => y_sub (r := ((i - 1 : Nat) : Int)) rfl rfl rfl (by rw [IntWalk.i64_in _ (by omega)]; omega)) (fun a hF => ?_)
            refine vp_yg hF rfl rfl rfl rfl rfl rfl rfl (by decide) _ (fun x hx => y_ixSl rfl Try.underlying36 sz9_rf rfl rfl (i - 1) rfl (by omega) (ad2 _ _ _)) (fun a hF => ?_)
            refine vp_yg hF rfl rfl rfl rfl rfl rfl rfl (by decide) _ (fun x hx => y_ldC (u := strV q0) rfl (Hq.sub hx (subC (subC (sub0)))) rfl hc (i - 1) (by rw [List.length_map]; omega) rfl (by rw [List.getElem?_map, hp0]; rfl) nr9_rf) (fun a hF => ?_)
            refine vp_yg hF rfl rfl rfl rfl rfl rfl rfl (by decide) _ (fun x hx => y_cmpS rfl rfl rfl rfl (((strB_leq _ _).trans hge))) (fun a hF => ?_)
            refine vp_ly hF rfl rfl rfl rfl (by decide) _ (y_pick rfl rfl rfl) (fun h => absurd h (by decide)) (fun a hF => ?_)
            refine plan_end ?_
            refine hK33 _ _ ?_; clear  hK33 K33
            refine vc_false hF rfl ?_
            apply wp_skip
            refine hK32 _ _ ?_; clear  hK32 K32
            apply wp_seq_k; intro K34 hK34
            apply wp_seq_k; intro K35 hK35
            refine wp_region_lit ?_
            refine vc_y hF rfl rfl (by decide) _ (y_move rfl rfl) (fun a hF => ?_)
            refine vc_y hF rfl rfl (by decide) _ (y_cmp rfl rfl rfl rfl (rfl)) (fun a hF => ?_)
            refine vc_nil ?_
            refine hK35 _ _ ?_; clear  hK35 K35
            refine vc_false hF rfl ?_
            apply wp_skip
            refine hK34 _ _ ?_; clear  hK34 K34
            refine wp_region_lit ?_
            refine vc_y hF rfl rfl (by decide) _ (y_move rfl rfl) (fun a hF => ?_)
            refine vc_y hF rfl rfl (by decide) _ (y_move rfl rfl) (fun a hF => ?_)
            rw [hTB] at hT
            obtain ⟨_, AT, cT, rfl, _, hRT⟩ := hT.rd (w0 := w0) (R := [XT]) (List.mem_cons_self ..)
            refine vc_op rfl (fun K hK => hs_append hF rfl (by decide) rfl hA24 1 rfl hB Try.underlying35 ow_elem5 rfl rfl (Rc.src (hRT.mono (fun x hx => by rw [List.mem_singleton] at hx; subst hx; simp)) hA24.q Try.underlying35) (by simp only [List.length_append, be_length]; omega) (by decide) (fun v4 X4 w25 a hB4 hF hA26 => hK _ _ ?_))
            clear hK K
            replace hA26 : Hp w0 (XT :: X4 :: R) w25 := hA26
            refine vc_y hF rfl rfl (by decide) _ (y_assign rfl rfl) (fun a hF => ?_)
            refine vc_nil ?_
            refine hK30 _ _ ?_; clear  hK30 K30
            refine wp_region_lit ?_
            refine vc_y hF rfl rfl (by decide) _ (y_move rfl rfl) (fun a hF => ?_)
            refine vc_y hF rfl rfl (by decide) _ (y_add rfl rfl rfl (IntWalk.i64_in _ (by omega))) (fun a hF => ?_)
            refine vc_y hF rfl rfl (by decide) _ (y_assign rfl rfl) (fun a hF => ?_)
            refine vc_nil ?_
            rw [← dc_append, ← List.length_append, List.append_assoc, ← hft] at hB4
            have hA27 : Hp w0 (X4 :: R) w25 := Hp.sel [XT, X4] R [1] [0] hA26 rfl
            exact ⟨i + 1, by omega, v4, X4, by omega, hE, hB4, hF.keep [9, 8, 0, 1, 2] rfl, hA27⟩
    · refine vc_falseB hF rfl (lss_f (by omega)) ?_
      obtain rfl : i = ss.length := by omega
      rw [Nat.sub_self, firstE] at hE
      rw [List.take_length] at hB
      apply wp_exit
      refine hK6 _ _ ?_; clear hK8 K8 hK6 K6
      apply wp_seq_k; intro K36 hK36
      refine wp_region_lit ?_
      refine vc_y hF rfl rfl (by decide) _ (y_move rfl rfl) (fun a hF => ?_)
      refine vc_y hF rfl rfl (by decide) _ (y_assign rfl rfl) (fun a hF => ?_)
      refine vc_y hF rfl rfl (by decide) _ (y_assign rfl rfl) (fun a hF => ?_)
      refine vc_nil ?_
      refine hK36 _ _ ?_; clear  hK36 K36
      apply wp_ret
      refine vc_ret2 hF Try.results81 rfl rfl ?_
      exact ⟨v3, X3, by rw [hE]; rfl, by rw [textsB, hE, if_pos rfl]; exact hB, hA6⟩
end Go.Proofs.Ythphfbohhbkdgaa
