/- The reference's forms. -/
import Derived.Test.YtepbmdlgdaedpaaGreatDoorKb
import Derived.Test.YtepbmdlgdaedpaaGreatDoorOctetH
import Derived.Test.YtepbmdlgdaedpaaGreatDoorBook1
namespace Go.Proofs.YtepbmdlgdaedpaaGreatDoor
open Go.RowKit Go.Dk

theorem rf_be_succ (i n : Nat) : be (i + 1) n = UInt8.ofNat (n / 256 ^ i) :: be i n := by
  unfold be
  rw [List.range_succ_eq_map, List.map_cons, List.map_map]
  refine congrArg _ (List.map_congr_left (fun j hj => ?_))
  rw [List.mem_range] at hj
  show UInt8.ofNat (n / 256 ^ (i + 1 - 1 - (j + 1))) = _
  rw [show i + 1 - 1 - (j + 1) = i - 1 - j by omega]
theorem rf_set (K i n : Nat) (hi : i < K) : (dc (List.replicate (K - i) 0 ++ be i n)).set (0 + (K - 1 - i)) (.int .u8 ((UInt8.ofNat (n / 256 ^ i)).toNat : Int)) = dc (List.replicate (K - (i + 1)) 0 ++ be (i + 1) n) := by
  obtain ⟨m, rfl⟩ : ∃ m, K = m + 1 + i := ⟨K - 1 - i, by omega⟩
  rw [show m + 1 + i - i = m + 1 by omega, show 0 + (m + 1 + i - 1 - i) = m by omega, show m + 1 + i - (i + 1) = m by omega, rf_be_succ]
  have h := set_mid (B := []) (W := dc (List.replicate m 0)) (Z := dc (0 :: be i n)) (j := m) (u := .int .u8 ((UInt8.ofNat (n / 256 ^ i)).toNat : Int)) (by rw [dc_length, List.length_replicate]) (by rw [dc_length, List.length_cons]; omega)
  simp only [List.nil_append, List.length_nil, Nat.zero_add] at h
  rw [List.replicate_succ', List.append_assoc, List.singleton_append]
  unfold dc at h ⊢
  rw [List.map_append, h, List.map_append]
  rfl
theorem sz5_rf : (Tryz.prog.info? 5).map (·.size) = some 1 := by kernel_rfl


set_option maxRecDepth 100000 in
set_option maxHeartbeats 4000000 in
theorem rf_number (w0 w : World) (R : List Seg) (n kk : Nat) (z0 z : Int) (h0 : z0 = n) (hz : z = kk) (hK : kk ≤ 8) (hA : Hp w0 R w) : Calls Tryz.prog 157 #[.int .u64 z0, .int .i64 z] w fun e w' => ∃ g, e = .returned (.slice (some ⟨g, 0, none⟩) kk kk) ∧ Hp w0 ([row g 5 (dc (be kk n))] :: R) w' := by
  subst h0 hz
  refine vc_enter Tryz.func157 rfl Tryz.ntmps157 (Nat.le_of_ble_eq_true rfl) (fun a hF => ?_)
  apply wp_seq_k; intro K1 hK1
  refine wp_region_lit ?_
  refine vc_y hF rfl rfl (by decide) _ (y_assign rfl rfl) (fun a hF => ?_)
  refine vc_nil ?_
  refine hK1 _ _ ?_; clear  hK1 K1
  apply wp_seq_k; intro K2 hK2
  refine wp_region_lit ?_
  refine vc_y hF rfl rfl (by decide) _ (y_move rfl rfl) (fun a hF => ?_)
  refine vc_op rfl (fun K hK => hs_makeU (size := 1) (bytes := 1) (u := .int .u8 0) hF rfl (by decide) rfl hA Tryz.underlying27 kb_mk_byte (by decide) kk rfl rfl (by omega) (by omega) (by omega) (by omega) (fun b1 w2 a hb1 hF hA3 => hK _ _ ?_))
  clear hK K
  replace hA3 : Hp w0 ([row b1 5 (List.replicate (kk * 1) (.int .u8 0))] :: R) w2 := hA3
  have hA4 : Hp w0 ([row b1 5 (dc (List.replicate (kk - 0) 0 ++ be 0 n))] :: R) w2 := by
    have e : dc (List.replicate (kk - 0) 0 ++ be 0 n) = List.replicate (kk * 1) (.int .u8 0) := by simp [dc, be]
    rw [e]; exact hA3
  refine vc_y hF rfl rfl (by decide) _ (y_assign rfl rfl) (fun a hF => ?_)
  refine vc_nil ?_
  refine hK2 _ _ ?_; clear  hK2 K2
  apply wp_seq_k; intro K3 hK3
  apply wp_seq_k; intro K4 hK4
  refine wp_region_lit ?_
  refine vc_y hF rfl rfl (by decide) _ (y_assign rfl rfl) (fun a hF => ?_)
  refine vc_nil ?_
  refine hK4 _ _ ?_; clear  hK4 K4
  apply wp_block
  refine vc_loop (G := Nat) (fun i a x => i ≤ kk ∧ Fr 27 [(6, .int .i64 (i : Int)), (0, .int .u64 ((n : Nat) : Int)), (1, .int .i64 ((kk : Nat) : Int)), (5, .slice (some ⟨b1, 0, none⟩) kk kk)] a ∧ Hp w0 ([row b1 5 (dc (List.replicate (kk - i) 0 ++ be i n))] :: R) x) (fun i => kk - i) 0 (⟨Nat.zero_le _, hF.keep [6, 0, 1, 5] rfl, hA4⟩) ?_
  clear hF
  rintro i a w6 ⟨hi, hF, hA5⟩
  apply wp_seq_k; intro K5 hK5
  apply wp_seq_k; intro K6 hK6
  refine wp_region_lit ?_
  refine vc_y hF rfl rfl (by decide) _ (y_move rfl rfl) (fun a hF => ?_)
  refine vc_y hF rfl rfl (by decide) _ (y_move rfl rfl) (fun a hF => ?_)
  refine vc_y hF rfl rfl (by decide) _ (y_cmp rfl rfl rfl rfl rfl) (fun a hF => ?_)
  refine vc_nil ?_
  refine hK6 _ _ ?_; clear  hK6 K6
  by_cases hlt : i < kk
  · refine vc_trueB hF rfl (lss_t (by omega)) ?_
    apply wp_skip
    refine hK5 _ _ ?_; clear  hK5 K5
    apply wp_seq_k; intro K7 hK7
    apply wp_block
    refine wp_region_lit ?_
    refine vc_y hF rfl rfl (by decide) _ (y_move rfl rfl) (fun a hF => ?_)
    refine vc_y hF rfl rfl (by decide) _ (y_move rfl rfl) (fun a hF => ?_)
    refine vc_y hF rfl rfl (by decide) _ (y_sub (r := ((kk - 1 : Nat) : Int)) rfl rfl rfl (by rw [IntWalk.i64_in _ (by omega)]; omega)) (fun a hF => ?_)
    refine vc_y hF rfl rfl (by decide) _ (y_move rfl rfl) (fun a hF => ?_)
    refine vc_y hF rfl rfl (by decide) _ (y_sub (r := ((kk - 1 - i : Nat) : Int)) rfl rfl rfl (by rw [IntWalk.i64_in _ (by omega)]; omega)) (fun a hF => ?_)
    refine vc_y hF rfl rfl (by decide) _ (y_move rfl rfl) (fun a hF => ?_)
    refine vc_y hF rfl rfl (by decide) _ (y_move rfl rfl) (fun a hF => ?_)
    refine vc_y hF rfl rfl (by decide) _ (y_mul (r := ((8 * i : Nat) : Int)) rfl rfl rfl (by rw [IntWalk.i64_in _ (by omega)]; omega)) (fun a hF => ?_)
    refine vc_y hF rfl rfl (by decide) _ (y_conv rfl Tryz.underlying3 Tryz.underlying38 rfl (show IntKind.u64.wrap (((8 * i : Nat) : Int)) = ((8 * i : Nat) : Int) by rw [IntKind.wrap_u64]; omega)) (fun a hF => ?_)
    refine vc_y hF rfl rfl (by decide) _ (y_shr rfl rfl rfl (by omega) rfl) (fun a hF => ?_)
    refine vc_y hF rfl rfl (by decide) _ (y_conv (r := ((UInt8.ofNat (n / 256 ^ i)).toNat : Int)) rfl Tryz.underlying135 Tryz.underlying5 rfl (ow_shr n i (8 * i) rfl (by omega))) (fun a hF => ?_)
    refine vc_y hF rfl rfl (by decide) _ (y_ixSl rfl Tryz.underlying27 sz5_rf rfl rfl (kk - 1 - i) rfl (by omega) (ad2 _ _ _)) (fun a hF => ?_)
    refine vc_op rfl (fun K hK => hs_store1 hF rfl rfl hA5 rfl rfl 0 rfl (by rw [dc_length, List.length_append, List.length_replicate, be_length]; omega) rfl sz5_rf (fun w7 hA8 => hK _ _ ?_))
    clear hK K
    replace hA8 : Hp w0 ([row b1 5 ((dc (List.replicate (kk - i) 0 ++ be i n)).set (0 + (kk - 1 - i)) (.int .u8 ((UInt8.ofNat (n / 256 ^ i)).toNat : Int)))] :: R) w7 := hA8
    have hA9 : Hp w0 ([row b1 5 (dc (List.replicate (kk - (i + 1)) 0 ++ be (i + 1) n))] :: R) w7 := by
      rw [← rf_set kk i n hlt]; exact hA8
    refine vc_nil ?_
    refine hK7 _ _ ?_; clear  hK7 K7
    refine wp_region_lit ?_
    refine vc_y hF rfl rfl (by decide) _ (y_move rfl rfl) (fun a hF => ?_)
    refine vc_y hF rfl rfl (by decide) _ (y_add rfl rfl rfl (IntWalk.i64_in _ (by omega))) (fun a hF => ?_)
    refine vc_y hF rfl rfl (by decide) _ (y_assign rfl rfl) (fun a hF => ?_)
    refine vc_nil ?_
    exact ⟨i + 1, by omega, by omega, hF.keep [6, 0, 1, 5] rfl, hA9⟩
  · refine vc_falseB hF rfl (lss_f (by omega)) ?_
    obtain rfl : i = kk := by omega
    apply wp_exit
    refine hK3 _ _ ?_; clear hK5 K5 hK3 K3
    apply wp_seq_k; intro K8 hK8
    refine wp_region_lit ?_
    refine vc_y hF rfl rfl (by decide) _ (y_move rfl rfl) (fun a hF => ?_)
    refine vc_y hF rfl rfl (by decide) _ (y_assign rfl rfl) (fun a hF => ?_)
    refine vc_nil ?_
    refine hK8 _ _ ?_; clear  hK8 K8
    apply wp_ret
    refine vc_ret1 hF Tryz.results157 rfl ?_
    rw [Nat.sub_self, List.replicate_zero, List.nil_append] at hA5
    exact ⟨_, rfl, hA5⟩
end Go.Proofs.YtepbmdlgdaedpaaGreatDoor
