/- texts, sum, unlike of the law DigestApart. -/
import Derived.Test.YtpomngkcfbnjoaaDoorTab3
namespace Go.Proofs.YtpomngkcfbnjoaaDoor
open Go.RowKit Go.Dk
set_option linter.unusedVariables false

section
variable {w d c h : Int} {X Y : List UInt8} {p q : Value}
end
theorem list32 {D : List UInt8} (h : D.length = 32) : (List.range 32).map (bAt D) = D := by
  apply List.ext_getElem?
  intro i
  rw [List.getElem?_map]
  by_cases hi : i < 32
  · rw [List.getElem?_range hi, List.getElem?_eq_getElem (by omega)]
    simp [bAt, h, hi]
  · rw [List.getElem?_eq_none (by simp; omega), List.getElem?_eq_none (by omega)]; rfl
theorem Own.drawn {w0 : World} {X : List Row} {v : Value} {n : Nat} {W : List Value} (h : Own w0 5 1 X v n W) : Own w0 5 1 X v n W := h
theorem sz5_t4 : (Tryd.prog.info? 5).map (·.size) = some 1 := by kernel_rfl
set_option maxRecDepth 100000 in
set_option maxHeartbeats 1000000 in
theorem eight_any (w : World) (n : Int) :
    Calls Tryd.prog 49 #[.int .i64 n] w fun e w' => ∃ g, e = .returned (.slice (some ⟨g, 0, none⟩) 8 8) ∧ w.heap.size ≤ g ∧ At w [(g, 5, dc (be 8 (c64 n)))] w' := by
  have hA0 := At.refl w
  obtain ⟨N, hN⟩ : ∃ N, N = c64 n := ⟨_, rfl⟩
  have hwr : IntKind.u64.wrap n = (N : Int) := by rw [hN]; exact c64_wrap n
  rw [← hN]
  refine vc_enter Tryd.func49 rfl Tryd.ntmps49 (Nat.le_of_ble_eq_true rfl) (fun a hF => ?_)
  apply wp_seq_k; intro K1 hK1
  refine wp_region_lit ?_
  refine vc_y hF rfl rfl (by decide) _ (y_assign rfl rfl) (fun a hF => ?_)
  refine vc_nil ?_
  refine hK1 _ _ ?_; clear  hK1 K1
  apply wp_seq_k; intro K2 hK2
  refine wp_region_lit ?_
  refine vc_op rfl (fun K hK => ws_make hF rfl (by decide) rfl hA0 Tryd.underlying59 bk_byte5 8 rfl rfl rfl rfl (by decide) (fun g w1 a hg hF hA1 => hK _ _ ?_))
  clear hK K
  refine vc_y hF rfl rfl (by decide) _ (y_assign rfl rfl) (fun a hF => ?_)
  refine vc_nil ?_
  refine hK2 _ _ ?_; clear  hK2 K2
  apply wp_seq_k; intro K3 hK3
  apply wp_seq_k; intro K4 hK4
  refine wp_region_lit ?_
  refine vc_y hF rfl rfl (by decide) _ (y_assign rfl rfl) (fun a hF => ?_)
  refine vc_nil ?_
  refine hK4 _ _ ?_; clear  hK4 K4
  apply wp_block
  refine vc_loop (G := Nat) (fun i a x => i ≤ 8 ∧ Fr 22 [(4, .int .i64 (i : Int)), (0, .int .i64 n), (3, .slice (some ⟨g, 0, none⟩) 8 8)] a ∧ At w [(g, 5, dc ((be 8 N).take i ++ List.replicate (8 - i) 0))] x) (fun i => 8 - i) 0 ⟨Nat.zero_le _, hF.keep [4, 0, 3] rfl, hA1⟩ ?_
  clear hF
  rintro i a wr ⟨hi, hF, hAr⟩
  by_cases hlt : i < 8
  · apply wp_seq_k; intro K5 hK5
    apply wp_seq_k; intro K6 hK6
    refine wp_region_lit ?_
    refine vc_y hF rfl rfl (by decide) _ (y_move rfl rfl) (fun a hF => ?_)
    refine vc_y hF rfl rfl (by decide) _ (y_cmp rfl rfl rfl rfl rfl) (fun a hF => ?_)
    refine vc_nil ?_
    refine hK6 _ _ ?_; clear  hK6 K6
    refine vc_trueB hF rfl (lss_t (by omega)) ?_
    apply wp_skip
    refine hK5 _ _ ?_; clear  hK5 K5
    apply wp_seq_k; intro K7 hK7
    apply wp_block
    refine wp_region_lit ?_
    refine vc_y hF rfl rfl (by decide) _ (y_move rfl rfl) (fun a hF => ?_)
    refine vc_y hF rfl rfl (by decide) _ (y_move rfl rfl) (fun a hF => ?_)
    refine vc_y hF rfl rfl (by decide) _ (y_move rfl rfl) (fun a hF => ?_)
    refine vc_y hF rfl rfl (by decide) _ (y_conv rfl Tryd.underlying3 Tryd.underlying129 rfl hwr) (fun a hF => ?_)
    refine vc_y hF rfl rfl (by decide) _ (y_move rfl rfl) (fun a hF => ?_)
    refine vc_y hF rfl rfl (by decide) _ (y_mul rfl rfl rfl (show IntKind.i64.wrap (8 * (i : Int)) = ((8 * i : Nat) : Int) by rw [IntWalk.i64_in _ (by omega)]; omega)) (fun a hF => ?_)
    refine vc_y hF rfl rfl (by decide) _ (y_sub rfl rfl rfl (show IntKind.i64.wrap (56 - ((8 * i : Nat) : Int)) = ((56 - 8 * i : Nat) : Int) by rw [IntWalk.i64_in _ (by omega)]; omega)) (fun a hF => ?_)
    refine vc_y hF rfl rfl (by decide) _ (y_conv rfl Tryd.underlying3 Tryd.underlying130 rfl (show IntKind.u64.wrap ((56 - 8 * i : Nat) : Int) = ((56 - 8 * i : Nat) : Int) by rw [IntKind.wrap_u64]; omega)) (fun a hF => ?_)
    refine vc_y hF rfl rfl (by decide) _ (y_shr rfl rfl rfl (by omega) rfl) (fun a hF => ?_)
    refine vc_y hF rfl rfl (by decide) _ (y_conv rfl Tryd.underlying129 Tryd.underlying5 rfl (ow_shr N (7 - i) (56 - 8 * i) (by omega) (by omega))) (fun a hF => ?_)
    refine vc_y hF rfl rfl (by decide) _ (y_ixSl rfl Tryd.underlying59 sz5_t4 rfl rfl i rfl (by omega) (ad2 _ _ _)) (fun a hF => ?_)
    refine vc_op rfl (fun K hK => ws_store1 hF rfl rfl hAr rfl rfl 0 rfl (by rw [dc_length]; simp [be]; omega) rfl sz5_t4 (fun w3 hA3 => hK _ _ ?_))
    clear hK K
    replace hA3 : At w [(g, 5, dc ((be 8 N).take (i + 1) ++ List.replicate (8 - (i + 1)) 0))] w3 := by rw [show 8 - i = (8 - (i + 1)) + 1 by omega, Nat.zero_add, take_put (UInt8.ofNat (N / 256 ^ (7 - i))) (be_at (k := 8) (by omega))] at hA3; exact hA3
    refine vc_nil ?_
    refine hK7 _ _ ?_; clear  hK7 K7
    refine wp_region_lit ?_
    refine vc_y hF rfl rfl (by decide) _ (y_move rfl rfl) (fun a hF => ?_)
    refine vc_y hF rfl rfl (by decide) _ (y_add rfl rfl rfl (IntWalk.i64_in _ (by omega))) (fun a hF => ?_)
    refine vc_y hF rfl rfl (by decide) _ (y_assign rfl rfl) (fun a hF => ?_)
    refine vc_nil ?_
    exact ⟨i + 1, by omega, by omega, hF.keep [4, 0, 3] rfl, hA3⟩
  · obtain rfl : i = 8 := by omega
    rw [List.take_of_length_le (by simp [be]), Nat.sub_self, List.replicate_zero, List.append_nil] at hAr
    apply wp_seq_k; intro K8 hK8
    apply wp_seq_k; intro K9 hK9
    refine wp_region_lit ?_
    refine vc_y hF rfl rfl (by decide) _ (y_move rfl rfl) (fun a hF => ?_)
    refine vc_y hF rfl rfl (by decide) _ (y_cmp rfl rfl rfl rfl rfl) (fun a hF => ?_)
    refine vc_nil ?_
    refine hK9 _ _ ?_; clear  hK9 K9
    refine vc_falseB hF rfl (lss_f (by omega)) ?_
    apply wp_exit
    refine hK3 _ _ ?_; clear hK8 K8 hK3 K3
    apply wp_seq_k; intro K10 hK10
    refine wp_region_lit ?_
    refine vc_y hF rfl rfl (by decide) _ (y_move rfl rfl) (fun a hF => ?_)
    refine vc_y hF rfl rfl (by decide) _ (y_assign rfl rfl) (fun a hF => ?_)
    refine vc_nil ?_
    refine hK10 _ _ ?_; clear  hK10 K10
    apply wp_ret
    refine vc_ret1 hF Tryd.results49 rfl ?_
    exact ⟨g, rfl, hg, hAr⟩

end Go.Proofs.YtpomngkcfbnjoaaDoor
