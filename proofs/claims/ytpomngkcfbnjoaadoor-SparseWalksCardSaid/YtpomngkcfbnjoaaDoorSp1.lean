/- Small functions of sparse proofs. -/
import Derived.Test.YtpomngkcfbnjoaaDoorSpL
import Derived.Test.YtpomngkcfbnjoaaDoorSp
import Derived.Test.YtpomngkcfbnjoaaDoorHs
import Derived.Lib.Tables
import Derived.Lib.BitFns
namespace Go.Proofs.YtpomngkcfbnjoaaDoor
open Go.RowKit Go.Dk

theorem nr3_spx : notRow Tryd.prog 3 = true := by kernel_rfl
theorem nr5_spx : notRow Tryd.prog 5 = true := by kernel_rfl
theorem sz3_spx : (Tryd.prog.info? 3).map (·.size) = some 1 := by kernel_rfl
theorem sz5_spx : (Tryd.prog.info? 5).map (·.size) = some 1 := by kernel_rfl
set_option maxRecDepth 100000 in
set_option maxHeartbeats 2000000 in
theorem sp_bit (w0 w : World) (R : List Seg) (k : List UInt8) (i : Nat) (hk : k.length = 32) (hi : i < 256) (hA : Hp w0 R w) : Calls Tryd.prog 76 #[.agg (dc k).toArray, .int .i64 (i : Int)] w fun e w' => e = .returned (.int .i64 (keyBit k i : Int)) ∧ Hp w0 R w' := by
  refine vc_enter Tryd.func76 rfl Tryd.ntmps76 (Nat.le_of_ble_eq_true rfl) (fun a hF => ?_)
  apply wp_seq_k; intro K1 hK1
  refine wp_region_lit ?_
  refine vc_op rfl (fun K hK => hs_box (cs := dc k) hF rfl (by decide) rfl hA rfl (fun b1 w2 a hb1 hF hA3 => hK _ _ ?_))
  clear hK K
  replace hA3 : Hp w0 ([row b1 23 (dc k)] :: R) w2 := hA3
  refine vc_y hF rfl rfl (by decide) _ (y_assign rfl rfl) (fun a hF => ?_)
  refine vc_nil ?_
  refine hK1 _ _ ?_; clear  hK1 K1
  apply wp_seq_k; intro K2 hK2
  refine wp_region_lit ?_
  refine vc_y hF rfl rfl (by decide) _ (y_move rfl rfl) (fun a hF => ?_)
  refine vc_y hF rfl rfl (by decide) _ (y_quo rfl rfl rfl (by decide) (quo8 i hi)) (fun a hF => ?_)
  refine vc_y hF rfl rfl (by decide) _ (y_ixArr rfl Tryd.underlying23 sz5_spx rfl rfl (i / 8) rfl (by omega) (ad1 _ _) (rfl : (none : Option Nat) = none)) (fun a hF => ?_)
  refine vc_y hF rfl rfl (by decide) _ (y_ld rfl hA3.q rfl 0 rfl (dc_at (by rw [hk]; omega)) nr5_spx) (fun a hF => ?_)
  refine vc_y hF rfl rfl (by decide) _ (y_move rfl rfl) (fun a hF => ?_)
  refine vc_y hF rfl rfl (by decide) _ (y_rem rfl rfl rfl (by decide) (rem8 i)) (fun a hF => ?_)
  refine vc_y hF rfl rfl (by decide) _ (y_sub rfl rfl rfl (IntWalk.i64_in _ (by omega))) (fun a hF => ?_)
  refine vc_y hF rfl rfl (by decide) _ (y_shr rfl rfl rfl (by omega) (shr_key _ i)) (fun a hF => ?_)
  refine vc_y hF rfl rfl (by decide) _ (y_conv rfl Tryd.underlying5 Tryd.underlying3 rfl (wrap_lt (byte_div_lt _ _))) (fun a hF => ?_)
  refine vc_y hF rfl rfl (by decide) _ (y_and rfl rfl rfl (key_and k i)) (fun a hF => ?_)
  refine vc_y hF rfl rfl (by decide) _ (y_assign rfl rfl) (fun a hF => ?_)
  refine vc_nil ?_
  refine hK2 _ _ ?_; clear  hK2 K2
  apply wp_ret
  refine vc_ret1 hF Tryd.results76 rfl ?_
  have hA4 : Hp w0 (R) w2 := Hp.sel [[row b1 23 (dc k)]] R [] [0] hA3 rfl
  exact ⟨rfl, hA4⟩

set_option maxRecDepth 100000 in
set_option maxHeartbeats 2000000 in
theorem sp_counted (w0 w : World) (R : List Seg) (ct : Int) (ch : List UInt8) (hA : Hp w0 R w) : Calls Tryd.prog 56 #[.agg (.int .i64 ct :: dc ch).toArray] w fun e w' => e = .returned (.bool (decide (1 ≤ ct ∧ ct ≤ 1099511627776))) ∧ Hp w0 R w' := by
  refine vc_enter Tryd.func56 rfl Tryd.ntmps56 (Nat.le_of_ble_eq_true rfl) (fun a hF => ?_)
  apply wp_seq_k; intro K1 hK1
  refine wp_region_lit ?_
  refine vc_op rfl (fun K hK => hs_box (cs := .int .i64 ct :: dc ch) hF rfl (by decide) rfl hA rfl (fun b1 w2 a hb1 hF hA3 => hK _ _ ?_))
  clear hK K
  replace hA3 : Hp w0 ([row b1 25 (.int .i64 ct :: dc ch)] :: R) w2 := hA3
  refine vc_y hF rfl rfl (by decide) _ (y_assign rfl rfl) (fun a hF => ?_)
  refine vc_nil ?_
  refine hK1 _ _ ?_; clear  hK1 K1
  apply wp_seq_k; intro K2 hK2
  by_cases h1 : 1 ≤ ct
  · by_cases h2 : ct ≤ 1099511627776
    · refine wp_region_lit ?_
      refine vc_y hF rfl rfl (by decide) _ (y_field rfl Tryd.underlying25 rfl sz3_spx (by decide) rfl (rfl : (⟨_, 0 + _, none⟩ : Addr) = ⟨_, 0, none⟩)) (fun a hF => ?_)
      refine vc_y hF rfl rfl (by decide) _ (y_ld rfl hA3.q rfl 0 rfl rfl nr3_spx) (fun a hF => ?_)
      refine vc_y hF rfl rfl (by decide) _ (y_cmp rfl rfl rfl rfl (geq_t (by omega))) (fun a hF => ?_)
      refine vc_y hF rfl rfl (by decide) _ (y_move rfl rfl) (fun a hF => ?_)
      refine vc_yg hF rfl rfl rfl rfl rfl (by decide) _ (y_field rfl Tryd.underlying25 rfl sz3_spx (by decide) rfl (rfl : (⟨_, 0 + _, none⟩ : Addr) = ⟨_, 0, none⟩)) (fun a hF => ?_)
      refine vc_yg hF rfl rfl rfl rfl rfl (by decide) _ (y_ld rfl hA3.q rfl 0 rfl rfl nr3_spx) (fun a hF => ?_)
      refine vc_yg hF rfl rfl rfl rfl rfl (by decide) _ (y_cmp rfl rfl rfl rfl (leq_t (by omega))) (fun a hF => ?_)
      refine vc_y hF rfl rfl (by decide) _ (y_pick rfl rfl rfl) (fun a hF => ?_)
      refine vc_y hF rfl rfl (by decide) _ (y_assign rfl rfl) (fun a hF => ?_)
      refine vc_nil ?_
      refine hK2 _ _ ?_; clear  hK2 K2
      apply wp_ret
      refine vc_ret1 hF Tryd.results56 rfl ?_
      have hA4 : Hp w0 (R) w2 := Hp.sel [[row b1 25 (.int .i64 ct :: dc ch)]] R [] [0] hA3 rfl
      exact ⟨by rw [decide_eq_true (by omega)], hA4⟩
    · refine wp_region_lit ?_
      refine vc_y hF rfl rfl (by decide) _ (y_field rfl Tryd.underlying25 rfl sz3_spx (by decide) rfl (rfl : (⟨_, 0 + _, none⟩ : Addr) = ⟨_, 0, none⟩)) (fun a hF => ?_)
      refine vc_y hF rfl rfl (by decide) _ (y_ld rfl hA3.q rfl 0 rfl rfl nr3_spx) (fun a hF => ?_)
      refine vc_y hF rfl rfl (by decide) _ (y_cmp rfl rfl rfl rfl (geq_t (by omega))) (fun a hF => ?_)
      refine vc_y hF rfl rfl (by decide) _ (y_move rfl rfl) (fun a hF => ?_)
      refine vc_yg hF rfl rfl rfl rfl rfl (by decide) _ (y_field rfl Tryd.underlying25 rfl sz3_spx (by decide) rfl (rfl : (⟨_, 0 + _, none⟩ : Addr) = ⟨_, 0, none⟩)) (fun a hF => ?_)
      refine vc_yg hF rfl rfl rfl rfl rfl (by decide) _ (y_ld rfl hA3.q rfl 0 rfl rfl nr3_spx) (fun a hF => ?_)
      refine vc_yg hF rfl rfl rfl rfl rfl (by decide) _ (y_cmp rfl rfl rfl rfl (leq_f (by omega))) (fun a hF => ?_)
      refine vc_y hF rfl rfl (by decide) _ (y_pick rfl rfl rfl) (fun a hF => ?_)
      refine vc_y hF rfl rfl (by decide) _ (y_assign rfl rfl) (fun a hF => ?_)
      refine vc_nil ?_
      refine hK2 _ _ ?_; clear  hK2 K2
      apply wp_ret
      refine vc_ret1 hF Tryd.results56 rfl ?_
      have hA5 : Hp w0 (R) w2 := Hp.sel [[row b1 25 (.int .i64 ct :: dc ch)]] R [] [0] hA3 rfl
      exact ⟨by rw [decide_eq_false (by omega)], hA5⟩
  · refine wp_region_lit ?_
    refine vc_y hF rfl rfl (by decide) _ (y_field rfl Tryd.underlying25 rfl sz3_spx (by decide) rfl (rfl : (⟨_, 0 + _, none⟩ : Addr) = ⟨_, 0, none⟩)) (fun a hF => ?_)
    refine vc_y hF rfl rfl (by decide) _ (y_ld rfl hA3.q rfl 0 rfl rfl nr3_spx) (fun a hF => ?_)
    refine vc_y hF rfl rfl (by decide) _ (y_cmp rfl rfl rfl rfl (geq_f (by omega))) (fun a hF => ?_)
    refine vc_y hF rfl rfl (by decide) _ (y_move rfl rfl) (fun a hF => ?_)
    refine vc_skip hF rfl rfl rfl rfl rfl rfl (by decide) (fun a hF => ?_)
    refine vc_skip hF rfl rfl rfl rfl rfl rfl (by decide) (fun a hF => ?_)
    refine vc_skip hF rfl rfl rfl rfl rfl rfl (by decide) (fun a hF => ?_)
    refine vc_y hF rfl rfl (by decide) _ (y_pick rfl rfl rfl) (fun a hF => ?_)
    refine vc_y hF rfl rfl (by decide) _ (y_assign rfl rfl) (fun a hF => ?_)
    refine vc_nil ?_
    refine hK2 _ _ ?_; clear  hK2 K2
    apply wp_ret
    refine vc_ret1 hF Tryd.results56 rfl ?_
    have hA6 : Hp w0 (R) w2 := Hp.sel [[row b1 25 (.int .i64 ct :: dc ch)]] R [] [0] hA3 rfl
    exact ⟨by rw [decide_eq_false (by omega)], hA6⟩

noncomputable def entF1 : Field := (Tryd.prog.fieldsOf 25)[0]?.getD default
noncomputable def entF2 : Field := (Tryd.prog.fieldsOf 25)[1]?.getD default
theorem sp_entF : (Tryd.prog.fieldsOf 25).toList = [entF1, entF2] := by kernel_rfl

end Go.Proofs.YtpomngkcfbnjoaaDoor
