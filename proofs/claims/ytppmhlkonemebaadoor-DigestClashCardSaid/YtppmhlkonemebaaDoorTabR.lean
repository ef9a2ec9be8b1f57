/- The reference's side of the digest's table. -/
import Derived.Test.YtppmhlkonemebaaDoorTab4
namespace Go.Proofs.YtppmhlkonemebaaDoor
open Go.RowKit Go.Dk

theorem cut_step {D : List UInt8} (hD : D.length = 32) {k i : Nat} (hk : k ≤ i) (hi : i < 32) : (dc (D.take k ++ List.replicate (i - k) 0 ++ D.drop i)).set i (.int .u8 0) = dc (D.take k ++ List.replicate (i + 1 - k) 0 ++ D.drop (i + 1)) := by
  have hl : (D.take k ++ List.replicate (i - k) (0 : UInt8)).length = i := by simp [hD]; omega
  rw [List.drop_eq_getElem_cons (show i < D.length by omega), dc_append, List.set_append, if_neg (by rw [dc_length, hl]; omega), dc_length, hl, Nat.sub_self]
  rw [show i + 1 - k = (i - k) + 1 by omega, List.replicate_succ', dc_append, dc_append, dc_append, dc_append]
  simp [dc]
  rw [List.drop_eq_getElem_cons (by simp; omega)]
  rfl
theorem cut_all {D : List UInt8} (hD : D.length = 32) (k : Nat) : D.take k ++ List.replicate (k - k) 0 ++ D.drop k = D := by simp
theorem rw36_tr : isRow Tryd.prog 36 32 = true := by kernel_rfl
theorem sz5_tr : (Tryd.prog.info? 5).map (·.size) = some 1 := by kernel_rfl
set_option maxRecDepth 100000 in
set_option maxHeartbeats 1000000 in
theorem rcut_any (D : List UInt8) (m : Int) (w : World) (hD : D.length = 32) :
    Calls Tryd.prog 68 #[.agg (dc D).toArray, .int .i64 m] w fun e w' => e = .returned (.agg (dc (cutL D m)).toArray) ∧ At w [] w' := by
  have hA0 := At.refl w
  obtain ⟨z, hz⟩ : ∃ z : Int, z = max m 1 := ⟨_, rfl⟩
  refine vc_enter Tryd.func68 rfl Tryd.ntmps68 (Nat.le_of_ble_eq_true rfl) (fun a hF => ?_)
  apply wp_seq_k; intro K1 hK1
  refine wp_region_lit ?_
  refine vc_op rfl (fun K hK => ws_box (cs := dc D) hF rfl (by decide) rfl hA0 rfl (fun b2 w1 a hb2 hF hA1 => hK _ _ ?_))
  clear hK K
  refine vc_op rfl (fun K hK => ws_alloc hF rfl (by decide) rfl hA1 zero36 (fun b4 w2 a hb4 hF hA2 => hK _ _ ?_))
  clear hK K
  replace hA2 : At w [(b4, 36, dc (List.replicate 32 0)), (b2, 36, dc D)] w2 := hA2
  refine vc_nil ?_
  refine hK1 _ _ ?_; clear  hK1 K1
  apply wp_seq_k; intro K2 hK2
  apply wp_seq_k; intro K3 hK3
  refine wp_region_lit ?_
  refine vc_y hF rfl rfl (by decide) _ (y_move rfl rfl) (fun a hF => ?_)
  refine vc_y hF rfl rfl (by decide) _ (y_cmp rfl rfl rfl rfl rfl) (fun a hF => ?_)
  refine vc_nil ?_
  refine hK3 _ _ ?_; clear  hK3 K3
  have meet : ∀ (a : Act) (x : World), Fr 16 [(1, .int .i64 z), (2, .pointer (some ⟨b2, 0, none⟩)), (4, .pointer (some ⟨b4, 0, none⟩))] a → At w [(b4, 36, dc (List.replicate 32 0)), (b2, 36, dc D)] x → K2 a x := by
    clear hF
    intro a w2 hF hA2
    refine hK2 _ _ ?_; clear  hK2 K2
    apply wp_seq_k; intro K4 hK4
    apply wp_seq_k; intro K5 hK5
    refine wp_region_lit ?_
    refine vc_y hF rfl rfl (by decide) _ (y_move rfl rfl) (fun a hF => ?_)
    refine vc_y hF rfl rfl (by decide) _ (y_assign rfl rfl) (fun a hF => ?_)
    refine vc_nil ?_
    refine hK5 _ _ ?_; clear  hK5 K5
    apply wp_block
    by_cases hbig : 32 ≤ z
    · have hfin : cutL D m = D := by
        have hk : kept m = 32 := by unfold kept; omega
        rw [cutL, hk, List.take_of_length_le (by omega)]
        simp
      refine vc_loop (G := Unit) (fun _ a x => Fr 16 [(5, .int .i64 z), (2, .pointer (some ⟨b2, 0, none⟩)), (4, .pointer (some ⟨b4, 0, none⟩))] a ∧ At w [(b4, 36, dc (List.replicate 32 0)), (b2, 36, dc D)] x) (fun _ => 0) () ⟨hF.keep [5, 2, 4] rfl, hA2⟩ ?_
      clear hF hA2
      rintro _ a wr ⟨hF, hAr⟩
      apply wp_seq_k; intro K6 hK6
      apply wp_seq_k; intro K7 hK7
      refine wp_region_lit ?_
      refine vc_y hF rfl rfl (by decide) _ (y_move rfl rfl) (fun a hF => ?_)
      refine vc_y hF rfl rfl (by decide) _ (y_cmp rfl rfl rfl rfl rfl) (fun a hF => ?_)
      refine vc_nil ?_
      refine hK7 _ _ ?_; clear  hK7 K7
      refine vc_falseB hF rfl (lss_f hbig) ?_
      apply wp_exit
      refine hK4 _ _ ?_; clear hK6 K6 hK4 K4
      apply wp_seq_k; intro K8 hK8
      refine wp_region_lit ?_
      refine vc_y hF rfl rfl (by decide) _ (y_loadRow rfl hAr rfl 1 rfl rw36_tr (by show 0 + 32 ≤ (dc D).length; rw [dc_length, ← hfin, cutL_length _ _ hD]; decide) (new := dc (cutL D m)) (by rw [List.drop_zero, hfin]; exact List.take_of_length_le (by rw [dc_length, ← hfin, cutL_length _ _ hD]; exact Nat.le_refl _))) (fun a hF => ?_)
      refine vc_op rfl (fun K hK => ws_storeAll hF rfl rfl hAr rfl rfl 0 rfl (tb_z (cutL_length _ _ hD)) (dc_one _) tb_s (fun w5 hA5 => hK _ _ ?_))
      clear hK K
      refine vc_nil ?_
      refine hK8 _ _ ?_; clear  hK8 K8
      apply wp_ret
      refine vc_retc hF Tryd.results68 hA5 rfl 0 rfl (tb_row36 (cutL_length _ _ hD)) ?_
      exact ⟨rfl, hA5.clear (cons_new (by have := hA1.size; omega) (one_new hb2))⟩
    · obtain ⟨k, hkz⟩ : ∃ k : Nat, z = (k : Int) := ⟨z.toNat, by omega⟩
      subst hkz
      have hk32 : k < 32 := by omega
      have hkk : kept m = k := by unfold kept; omega
      refine vc_loop (G := Nat) (fun i a x => k ≤ i ∧ i ≤ 32 ∧ Fr 16 [(5, .int .i64 (i : Int)), (2, .pointer (some ⟨b2, 0, none⟩)), (4, .pointer (some ⟨b4, 0, none⟩))] a ∧ At w [(b4, 36, dc (List.replicate 32 0)), (b2, 36, dc (D.take k ++ List.replicate (i - k) 0 ++ D.drop i))] x) (fun i => 32 - i) k ⟨Nat.le_refl _, by omega, hF.keep [5, 2, 4] rfl, by rw [cut_all hD]; exact hA2⟩ ?_
      clear hF
      rintro i a wr ⟨hki, hi32, hF, hAr⟩
      by_cases hi : i < 32
      · apply wp_seq_k; intro K9 hK9
        apply wp_seq_k; intro K10 hK10
        refine wp_region_lit ?_
        refine vc_y hF rfl rfl (by decide) _ (y_move rfl rfl) (fun a hF => ?_)
        refine vc_y hF rfl rfl (by decide) _ (y_cmp rfl rfl rfl rfl rfl) (fun a hF => ?_)
        refine vc_nil ?_
        refine hK10 _ _ ?_; clear  hK10 K10
        refine vc_trueB hF rfl (lss_t (by omega)) ?_
        apply wp_skip
        refine hK9 _ _ ?_; clear  hK9 K9
        apply wp_seq_k; intro K11 hK11
        apply wp_block
        refine wp_region_lit ?_
        refine vc_y hF rfl rfl (by decide) _ (y_move rfl rfl) (fun a hF => ?_)
        refine vc_y hF rfl rfl (by decide) _ (y_ixArr rfl Tryd.underlying36 sz5_tr rfl rfl i rfl (by omega) (ad1 _ _) (rfl : (none : Option Nat) = none)) (fun a hF => ?_)
        refine vc_op rfl (fun K hK => ws_store1 hF rfl rfl hAr rfl rfl 1 rfl (by rw [dc_length]; simp [hD]; omega) rfl sz5_tr (fun w3 hA3 => hK _ _ ?_))
        clear hK K
        replace hA3 : At w [(b4, 36, dc (List.replicate 32 0)), (b2, 36, dc (D.take k ++ List.replicate (i + 1 - k) 0 ++ D.drop (i + 1)))] w3 := by have h := hA3; simp only [List.set_cons_succ, List.set_cons_zero] at h; rw [cut_step hD hki hi] at h; exact h
        refine vc_nil ?_
        refine hK11 _ _ ?_; clear  hK11 K11
        refine wp_region_lit ?_
        refine vc_y hF rfl rfl (by decide) _ (y_move rfl rfl) (fun a hF => ?_)
        refine vc_y hF rfl rfl (by decide) _ (y_add rfl rfl rfl (show IntKind.i64.wrap ((i : Int) + 1) = ((i + 1 : Nat) : Int) by rw [IntWalk.i64_in _ (by omega)]; omega)) (fun a hF => ?_)
        refine vc_y hF rfl rfl (by decide) _ (y_assign rfl rfl) (fun a hF => ?_)
        refine vc_nil ?_
        exact ⟨i + 1, by omega, by omega, by omega, hF.keep [5, 2, 4] rfl, hA3⟩
      · obtain rfl : i = 32 := by omega
        have hfin : cutL D m = D.take k ++ List.replicate (32 - k) 0 ++ D.drop 32 := by
          rw [cutL, hkk, List.drop_eq_nil_iff.2 (by omega), List.append_nil]
        apply wp_seq_k; intro K12 hK12
        apply wp_seq_k; intro K13 hK13
        refine wp_region_lit ?_
        refine vc_y hF rfl rfl (by decide) _ (y_move rfl rfl) (fun a hF => ?_)
        refine vc_y hF rfl rfl (by decide) _ (y_cmp rfl rfl rfl rfl rfl) (fun a hF => ?_)
        refine vc_nil ?_
        refine hK13 _ _ ?_; clear  hK13 K13
        refine vc_falseB hF rfl (lss_f (by omega)) ?_
        apply wp_exit
        refine hK4 _ _ ?_; clear hK12 K12 hK4 K4
        apply wp_seq_k; intro K14 hK14
        refine wp_region_lit ?_
        refine vc_y hF rfl rfl (by decide) _ (y_loadRow rfl hAr rfl 1 rfl rw36_tr (by show 0 + 32 ≤ (dc (D.take k ++ List.replicate (32 - k) 0 ++ D.drop 32)).length; rw [dc_length, ← hfin, cutL_length _ _ hD]; decide) (new := dc (cutL D m)) (by rw [List.drop_zero, hfin]; exact List.take_of_length_le (by rw [dc_length, ← hfin, cutL_length _ _ hD]; exact Nat.le_refl _))) (fun a hF => ?_)
        refine vc_op rfl (fun K hK => ws_storeAll hF rfl rfl hAr rfl rfl 0 rfl (tb_z (cutL_length _ _ hD)) (dc_one _) tb_s (fun w5 hA5 => hK _ _ ?_))
        clear hK K
        refine vc_nil ?_
        refine hK14 _ _ ?_; clear  hK14 K14
        apply wp_ret
        refine vc_retc hF Tryd.results68 hA5 rfl 0 rfl (tb_row36 (cutL_length _ _ hD)) ?_
        exact ⟨rfl, hA5.clear (cons_new (by have := hA1.size; omega) (one_new hb2))⟩
  by_cases hm : m < 1
  · refine vc_trueB hF rfl (lss_t hm) ?_
    refine wp_region_lit ?_
    refine vc_y hF rfl rfl (by decide) _ (y_assign rfl rfl) (fun a hF => ?_)
    refine vc_nil ?_
    have hz1 : z = 1 := by omega
    rw [← hz1] at hF
    exact meet _ _ (hF.keep [1, 2, 4] rfl) hA2
  · refine vc_falseB hF rfl (lss_f (by omega)) ?_
    apply wp_skip
    have hz1 : z = m := by omega
    rw [← hz1] at hF
    exact meet _ _ (hF.keep [1, 2, 4] rfl) hA2

end Go.Proofs.YtppmhlkonemebaaDoor
