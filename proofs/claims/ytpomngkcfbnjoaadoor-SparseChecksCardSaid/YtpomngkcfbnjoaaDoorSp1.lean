/- Small functions of sparse proofs. -/
import Derived.Test.YtpomngkcfbnjoaaDoorSpL
import Derived.Test.YtpomngkcfbnjoaaDoorSp
import Derived.Test.YtpomngkcfbnjoaaDoorHs
import Derived.Lib.Tables
import Derived.Lib.BitFns
namespace Go.Proofs.YtpomngkcfbnjoaaDoor
open Go.RowKit Go.Dk

theorem nr3_spx : notRow Tryd.prog 3 = true := by kernel_rfl
theorem nr4_spx : notRow Tryd.prog 4 = true := by kernel_rfl
theorem nr5_spx : notRow Tryd.prog 5 = true := by kernel_rfl
theorem nr26_spx : notRow Tryd.prog 26 = true := by kernel_rfl
theorem rw22_spx : isRow Tryd.prog 22 32 = true := by kernel_rfl
theorem rw25_spx : isRow Tryd.prog 25 33 = true := by kernel_rfl
theorem sz3_spx : (Tryd.prog.info? 3).map (·.size) = some 1 := by kernel_rfl
theorem sz4_spx : (Tryd.prog.info? 4).map (·.size) = some 1 := by kernel_rfl
theorem sz5_spx : (Tryd.prog.info? 5).map (·.size) = some 1 := by kernel_rfl
theorem sz22_spx : (Tryd.prog.info? 22).map (·.size) = some 32 := by kernel_rfl
theorem sz23_spx : (Tryd.prog.info? 23).map (·.size) = some 32 := by kernel_rfl
theorem sz25_spx : (Tryd.prog.info? 25).map (·.size) = some 33 := by kernel_rfl
theorem sz26_spx : (Tryd.prog.info? 26).map (·.size) = some 1 := by kernel_rfl
theorem cl56_spx : CallsTo Tryd.prog 56 := ⟨_, Tryd.func56, by kernel_rfl, by kernel_rfl⟩
theorem cl94_spx : CallsTo Tryd.prog 94 := ⟨_, Tryd.func94, by kernel_rfl, by kernel_rfl⟩


set_option maxRecDepth 100000 in
set_option maxHeartbeats 2000000 in
theorem sp_bit (w0 w : World) (R : List Seg) (k : List UInt8) (i : Nat) (hk : k.length = 32) (hi : i < 256) (hA : Hp w0 R w) : Calls Tryd.prog 76 #[.agg (dc k).toArray, .int .i64 (i : Int)] w fun e w' => e = .returned (.int .i64 (keyBit k i : Int)) ∧ Hp w0 R w' := by
  refine vc_enter Tryd.func76 rfl Tryd.ntmps76 (Nat.le_of_ble_eq_true rfl) (fun a hF => ?_)
  apply wp_seq_k; intro K1 hK1
  refine wp_region_lit ?_
  refine vc_op rfl (fun K hK => hs_box (cs := dc k) hF rfl (by decide) rfl hA rfl (fun b1 w2 a hb1 hF hA3 => hK _ _ ?_))
  clear hK K
  replace hA3 : Hp w0 ([row b1 23 (dc k)] :: R) w2 := hA3
  refine vc_y hF rfl rfl (by decide) _ (y_assign rfl rfl) (fun a hF => ?_)
  refine vc_nil ?_
  refine hK1 _ _ ?_; clear  hK1 K1
  apply wp_seq_k; intro K2 hK2
  refine wp_region_lit ?_
  refine vc_y hF rfl rfl (by decide) _ (y_move rfl rfl) (fun a hF => ?_)
  refine vc_y hF rfl rfl (by decide) _ (y_quo rfl rfl rfl (by decide) (quo8 i hi)) (fun a hF => ?_)
  refine vc_y hF rfl rfl (by decide) _ (y_ixArr rfl Tryd.underlying23 sz5_spx rfl rfl (i / 8) rfl (by omega) (ad1 _ _) (rfl : (none : Option Nat) = none)) (fun a hF => ?_)
  refine vc_y hF rfl rfl (by decide) _ (y_ld rfl hA3.q rfl 0 rfl (dc_at (by rw [hk]; omega)) nr5_spx) (fun a hF => ?_)
  refine vc_y hF rfl rfl (by decide) _ (y_move rfl rfl) (fun a hF => ?_)
  refine vc_y hF rfl rfl (by decide) _ (y_rem rfl rfl rfl (by decide) (rem8 i)) (fun a hF => ?_)
  refine vc_y hF rfl rfl (by decide) _ (y_sub rfl rfl rfl (IntWalk.i64_in _ (by omega))) (fun a hF => ?_)
  refine vc_y hF rfl rfl (by decide) _ (y_shr rfl rfl rfl (by omega) (shr_key _ i)) (fun a hF => ?_)
  refine vc_y hF rfl rfl (by decide) _ (y_conv rfl Tryd.underlying5 Tryd.underlying3 rfl (wrap_lt (byte_div_lt _ _))) (fun a hF => ?_)
  refine vc_y hF rfl rfl (by decide) _ (y_and rfl rfl rfl (key_and k i)) (fun a hF => ?_)
  refine vc_y hF rfl rfl (by decide) _ (y_assign rfl rfl) (fun a hF => ?_)
  refine vc_nil ?_
  refine hK2 _ _ ?_; clear  hK2 K2
  apply wp_ret
  refine vc_ret1 hF Tryd.results76 rfl ?_
  have hA4 : Hp w0 (R) w2 := Hp.sel [[row b1 23 (dc k)]] R [] [0] hA3 rfl
  exact ⟨rfl, hA4⟩

set_option maxRecDepth 100000 in
set_option maxHeartbeats 2000000 in
theorem sp_rbit (w0 w : World) (R : List Seg) (k : List UInt8) (i : Nat) (hk : k.length = 32) (hi : i < 256) (hA : Hp w0 R w) : Calls Tryd.prog 52 #[.agg (dc k).toArray, .int .i64 (i : Int)] w fun e w' => e = .returned (.int .i64 (keyBit k i : Int)) ∧ Hp w0 R w' := by
  refine vc_enter Tryd.func52 rfl Tryd.ntmps52 (Nat.le_of_ble_eq_true rfl) (fun a hF => ?_)
  apply wp_seq_k; intro K1 hK1
  refine wp_region_lit ?_
  refine vc_op rfl (fun K hK => hs_box (cs := dc k) hF rfl (by decide) rfl hA rfl (fun b1 w2 a hb1 hF hA3 => hK _ _ ?_))
  clear hK K
  replace hA3 : Hp w0 ([row b1 23 (dc k)] :: R) w2 := hA3
  refine vc_y hF rfl rfl (by decide) _ (y_assign rfl rfl) (fun a hF => ?_)
  refine vc_nil ?_
  refine hK1 _ _ ?_; clear  hK1 K1
  apply wp_seq_k; intro K2 hK2
  refine wp_region_plan 11 [11] [0,1,2,3,4,5,6,7,8,9,10,11] (fun x => Hq w0 ([row b1 23 (dc k)] :: R) x) (by kernel_rfl) (by kernel_rfl) (Hq.drew (Hp.qp [[row b1 23 (dc k)]] R [0] hA3)) ?_
  have hA4 := Hl.drew hA3
  refine vp_y hF rfl rfl rfl rfl (by decide) _ (fun x hx => y_move rfl rfl) (fun a hF => ?_)
  refine vp_y hF rfl rfl rfl rfl (by decide) _ (fun x hx => y_quo rfl rfl rfl (by decide) (quo8 i hi)) (fun a hF => ?_)
  refine vp_y hF rfl rfl rfl rfl (by decide) _ (fun x hx => y_ixArr rfl Tryd.underlying23 sz5_spx rfl rfl (i / 8) rfl (by omega) (ad1 _ _) (rfl : (none : Option Nat) = none)) (fun a hF => ?_)
  refine vp_y hF rfl rfl rfl rfl (by decide) _ (fun x hx => y_ld rfl hx rfl 0 rfl (dc_at (by rw [hk]; omega)) nr5_spx) (fun a hF => ?_)
  refine vp_y hF rfl rfl rfl rfl (by decide) _ (fun x hx => y_conv rfl Tryd.underlying5 Tryd.underlying3 rfl (wrap_lt (bAt k (i / 8)).toNat_lt)) (fun a hF => ?_)
  refine vp_y hF rfl rfl rfl rfl (by decide) _ (fun x hx => y_move rfl rfl) (fun a hF => ?_)
  refine vp_y hF rfl rfl rfl rfl (by decide) _ (fun x hx => y_rem rfl rfl rfl (by decide) (rem8 i)) (fun a hF => ?_)
  refine vp_y hF rfl rfl rfl rfl (by decide) _ (fun x hx => y_sub rfl rfl rfl (IntWalk.i64_in _ (by omega))) (fun a hF => ?_)
  refine vp_y hF rfl rfl rfl rfl (by decide) _ (fun x hx => y_shl rfl rfl rfl (by omega) (shl_key i)) (fun a hF => ?_)
  refine vp_y hF rfl rfl rfl rfl (by decide) _ (fun x hx => y_quo rfl rfl rfl (pow_ne _) (quo_pow _ _)) (fun a hF => ?_)
  refine vp_y hF rfl rfl rfl rfl (by decide) _ (fun x hx => y_rem rfl rfl rfl (by decide) (rem2n _)) (fun a hF => ?_)
  refine vp_ly hF rfl rfl rfl rfl (by decide) _ (y_assign rfl rfl) (fun h => absurd h (by decide)) (fun a hF => ?_)
  refine plan_end ?_
  refine hK2 _ _ ?_; clear  hK2 K2
  apply wp_ret
  refine vc_ret1 hF Tryd.results52 rfl ?_
  have hA5 : Hp w0 (R) w2.drew := Hp.sel [[row b1 23 (dc k)]] R [] [0] hA4 rfl
  exact ⟨rfl, hA5⟩

set_option maxRecDepth 100000 in
set_option maxHeartbeats 2000000 in
theorem sp_set (w0 w : World) (R : List Seg) (p : Prf) (sv : Value) (hp : p.OK) (h : Nat) (hh : h < 256) (hA : Hp w0 R w) : Calls Tryd.prog 45 #[.agg (p.cells sv).toArray, .int .i64 (h : Int)] w fun e w' => e = .returned (.bool (bitOf p.bs h)) ∧ Hp w0 R w' := by
  refine vc_enter Tryd.func45 rfl Tryd.ntmps45 (Nat.le_of_ble_eq_true rfl) (fun a hF => ?_)
  apply wp_seq_k; intro K1 hK1
  refine wp_region_lit ?_
  refine vc_op rfl (fun K hK => hs_box (cs := p.cells sv) hF rfl (by decide) rfl hA rfl (fun b1 w2 a hb1 hF hA3 => hK _ _ ?_))
  clear hK K
  replace hA3 : Hp w0 ([row b1 28 (p.cells sv)] :: R) w2 := hA3
  refine vc_y hF rfl rfl (by decide) _ (y_assign rfl rfl) (fun a hF => ?_)
  refine vc_nil ?_
  refine hK1 _ _ ?_; clear  hK1 K1
  apply wp_seq_k; intro K2 hK2
  refine wp_region_plan 12 [12] [0,1,2,3,4,5,6,7,8,9,10,11,12] (fun x => Hq w0 ([row b1 28 (p.cells sv)] :: R) x) (by kernel_rfl) (by kernel_rfl) (Hq.drew (Hp.qp [[row b1 28 (p.cells sv)]] R [0] hA3)) ?_
  have hA4 := Hl.drew hA3
  refine vp_y hF rfl rfl rfl rfl (by decide) _ (fun x hx => y_move rfl rfl) (fun a hF => ?_)
  refine vp_y hF rfl rfl rfl rfl (by decide) _ (fun x hx => y_quo rfl rfl rfl (by decide) (quo8 h hh)) (fun a hF => ?_)
  refine vp_y hF rfl rfl rfl rfl (by decide) _ (fun x hx => y_field rfl Tryd.underlying28 rfl sz22_spx (by decide) rfl (rfl : (⟨_, 0 + _, none⟩ : Addr) = ⟨_, 34, none⟩)) (fun a hF => ?_)
  refine vp_y hF rfl rfl rfl rfl (by decide) _ (fun x hx => y_ixArr rfl Tryd.underlying22 sz5_spx rfl rfl (h / 8) rfl (by omega) (ad2 _ _ _) (rfl : (none : Option Nat) = none)) (fun a hF => ?_)
  refine vp_y hF rfl rfl rfl rfl (by decide) _ (fun x hx => y_ld rfl hx rfl 0 rfl (Prf.c_bit hp (by omega)) nr5_spx) (fun a hF => ?_)
  refine vp_y hF rfl rfl rfl rfl (by decide) _ (fun x hx => y_conv rfl Tryd.underlying5 Tryd.underlying3 rfl (wrap_lt (bAt p.bs (h / 8)).toNat_lt)) (fun a hF => ?_)
  refine vp_y hF rfl rfl rfl rfl (by decide) _ (fun x hx => y_move rfl rfl) (fun a hF => ?_)
  refine vp_y hF rfl rfl rfl rfl (by decide) _ (fun x hx => y_rem rfl rfl rfl (by decide) (rem8 h)) (fun a hF => ?_)
  refine vp_y hF rfl rfl rfl rfl (by decide) _ (fun x hx => y_shl rfl rfl rfl (by omega) (shl_bit h)) (fun a hF => ?_)
  refine vp_y hF rfl rfl rfl rfl (by decide) _ (fun x hx => y_quo rfl rfl rfl (pow_ne _) (quo_pow _ _)) (fun a hF => ?_)
  refine vp_y hF rfl rfl rfl rfl (by decide) _ (fun x hx => y_rem rfl rfl rfl (by decide) (rem2n _)) (fun a hF => ?_)
  refine vp_y hF rfl rfl rfl rfl (by decide) _ (fun x hx => y_cmp rfl rfl rfl rfl (eq1_bit p.bs h)) (fun a hF => ?_)
  refine vp_ly hF rfl rfl rfl rfl (by decide) _ (y_assign rfl rfl) (fun h => absurd h (by decide)) (fun a hF => ?_)
  refine plan_end ?_
  refine hK2 _ _ ?_; clear  hK2 K2
  apply wp_ret
  refine vc_ret1 hF Tryd.results45 rfl ?_
  have hA5 : Hp w0 (R) w2.drew := Hp.sel [[row b1 28 (p.cells sv)]] R [] [0] hA4 rfl
  exact ⟨rfl, hA5⟩

set_option maxRecDepth 100000 in
set_option maxHeartbeats 2000000 in
theorem sp_counted (w0 w : World) (R : List Seg) (ct : Int) (ch : List UInt8) (hA : Hp w0 R w) : Calls Tryd.prog 56 #[.agg (.int .i64 ct :: dc ch).toArray] w fun e w' => e = .returned (.bool (decide (1 ≤ ct ∧ ct ≤ 1099511627776))) ∧ Hp w0 R w' := by
  refine vc_enter Tryd.func56 rfl Tryd.ntmps56 (Nat.le_of_ble_eq_true rfl) (fun a hF => ?_)
  apply wp_seq_k; intro K1 hK1
  refine wp_region_lit ?_
  refine vc_op rfl (fun K hK => hs_box (cs := .int .i64 ct :: dc ch) hF rfl (by decide) rfl hA rfl (fun b1 w2 a hb1 hF hA3 => hK _ _ ?_))
  clear hK K
  replace hA3 : Hp w0 ([row b1 25 (.int .i64 ct :: dc ch)] :: R) w2 := hA3
  refine vc_y hF rfl rfl (by decide) _ (y_assign rfl rfl) (fun a hF => ?_)
  refine vc_nil ?_
  refine hK1 _ _ ?_; clear  hK1 K1
  apply wp_seq_k; intro K2 hK2
  by_cases h1 : 1 ≤ ct
  · by_cases h2 : ct ≤ 1099511627776
    · refine wp_region_lit ?_
      refine vc_y hF rfl rfl (by decide) _ (y_field rfl Tryd.underlying25 rfl sz3_spx (by decide) rfl (rfl : (⟨_, 0 + _, none⟩ : Addr) = ⟨_, 0, none⟩)) (fun a hF => ?_)
      refine vc_y hF rfl rfl (by decide) _ (y_ld rfl hA3.q rfl 0 rfl rfl nr3_spx) (fun a hF => ?_)
      refine vc_y hF rfl rfl (by decide) _ (y_cmp rfl rfl rfl rfl (geq_t (by omega))) (fun a hF => ?_)
      refine vc_y hF rfl rfl (by decide) _ (y_move rfl rfl) (fun a hF => ?_)
      refine vc_yg hF rfl rfl rfl rfl rfl (by decide) _ (y_field rfl Tryd.underlying25 rfl sz3_spx (by decide) rfl (rfl : (⟨_, 0 + _, none⟩ : Addr) = ⟨_, 0, none⟩)) (fun a hF => ?_)
      refine vc_yg hF rfl rfl rfl rfl rfl (by decide) _ (y_ld rfl hA3.q rfl 0 rfl rfl nr3_spx) (fun a hF => ?_)
      refine vc_yg hF rfl rfl rfl rfl rfl (by decide) _ (y_cmp rfl rfl rfl rfl (leq_t (by omega))) (fun a hF => ?_)
      refine vc_y hF rfl rfl (by decide) _ (y_pick rfl rfl rfl) (fun a hF => ?_)
      refine vc_y hF rfl rfl (by decide) _ (y_assign rfl rfl) (fun a hF => ?_)
      refine vc_nil ?_
      refine hK2 _ _ ?_; clear  hK2 K2
      apply wp_ret
      refine vc_ret1 hF Tryd.results56 rfl ?_
      have hA4 : Hp w0 (R) w2 := Hp.sel [[row b1 25 (.int .i64 ct :: dc ch)]] R [] [0] hA3 rfl
      exact ⟨by rw [decide_eq_true (by omega)], hA4⟩
    · refine wp_region_lit ?_
      refine vc_y hF rfl rfl (by decide) _ (y_field rfl Tryd.underlying25 rfl sz3_spx (by decide) rfl (rfl : (⟨_, 0 + _, none⟩ : Addr) = ⟨_, 0, none⟩)) (fun a hF => ?_)
      refine vc_y hF rfl rfl (by decide) _ (y_ld rfl hA3.q rfl 0 rfl rfl nr3_spx) (fun a hF => ?_)
      refine vc_y hF rfl rfl (by decide) _ (y_cmp rfl rfl rfl rfl (geq_t (by omega))) (fun a hF => ?_)
      refine vc_y hF rfl rfl (by decide) _ (y_move rfl rfl) (fun a hF => ?_)
      refine vc_yg hF rfl rfl rfl rfl rfl (by decide) _ (y_field rfl Tryd.underlying25 rfl sz3_spx (by decide) rfl (rfl : (⟨_, 0 + _, none⟩ : Addr) = ⟨_, 0, none⟩)) (fun a hF => ?_)
      refine vc_yg hF rfl rfl rfl rfl rfl (by decide) _ (y_ld rfl hA3.q rfl 0 rfl rfl nr3_spx) (fun a hF => ?_)
      refine vc_yg hF rfl rfl rfl rfl rfl (by decide) _ (y_cmp rfl rfl rfl rfl (leq_f (by omega))) (fun a hF => ?_)
      refine vc_y hF rfl rfl (by decide) _ (y_pick rfl rfl rfl) (fun a hF => ?_)
      refine vc_y hF rfl rfl (by decide) _ (y_assign rfl rfl) (fun a hF => ?_)
      refine vc_nil ?_
      refine hK2 _ _ ?_; clear  hK2 K2
      apply wp_ret
      refine vc_ret1 hF Tryd.results56 rfl ?_
      have hA5 : Hp w0 (R) w2 := Hp.sel [[row b1 25 (.int .i64 ct :: dc ch)]] R [] [0] hA3 rfl
      exact ⟨by rw [decide_eq_false (by omega)], hA5⟩
  · refine wp_region_lit ?_
    refine vc_y hF rfl rfl (by decide) _ (y_field rfl Tryd.underlying25 rfl sz3_spx (by decide) rfl (rfl : (⟨_, 0 + _, none⟩ : Addr) = ⟨_, 0, none⟩)) (fun a hF => ?_)
    refine vc_y hF rfl rfl (by decide) _ (y_ld rfl hA3.q rfl 0 rfl rfl nr3_spx) (fun a hF => ?_)
    refine vc_y hF rfl rfl (by decide) _ (y_cmp rfl rfl rfl rfl (geq_f (by omega))) (fun a hF => ?_)
    refine vc_y hF rfl rfl (by decide) _ (y_move rfl rfl) (fun a hF => ?_)
    refine vc_skip hF rfl rfl rfl rfl rfl rfl (by decide) (fun a hF => ?_)
    refine vc_skip hF rfl rfl rfl rfl rfl rfl (by decide) (fun a hF => ?_)
    refine vc_skip hF rfl rfl rfl rfl rfl rfl (by decide) (fun a hF => ?_)
    refine vc_y hF rfl rfl (by decide) _ (y_pick rfl rfl rfl) (fun a hF => ?_)
    refine vc_y hF rfl rfl (by decide) _ (y_assign rfl rfl) (fun a hF => ?_)
    refine vc_nil ?_
    refine hK2 _ _ ?_; clear  hK2 K2
    apply wp_ret
    refine vc_ret1 hF Tryd.results56 rfl ?_
    have hA6 : Hp w0 (R) w2 := Hp.sel [[row b1 25 (.int .i64 ct :: dc ch)]] R [] [0] hA3 rfl
    exact ⟨by rw [decide_eq_false (by omega)], hA6⟩

set_option maxRecDepth 100000 in
set_option maxHeartbeats 2000000 in
theorem sp_right (w0 w : World) (R : List Seg) (ct : Int) (ch : List UInt8) (hA : Hp w0 R w) : Calls Tryd.prog 46 #[.agg (.int .i64 ct :: dc ch).toArray] w fun e w' => e = .returned (.bool (decide (1 ≤ ct ∧ ct ≤ 1099511627776))) ∧ Hp w0 R w' := by
  refine vc_enter Tryd.func46 rfl Tryd.ntmps46 (Nat.le_of_ble_eq_true rfl) (fun a hF => ?_)
  apply wp_seq_k; intro K1 hK1
  refine wp_region_lit ?_
  refine vc_op rfl (fun K hK => hs_box (cs := .int .i64 ct :: dc ch) hF rfl (by decide) rfl hA rfl (fun b1 w2 a hb1 hF hA3 => hK _ _ ?_))
  clear hK K
  replace hA3 : Hp w0 ([row b1 25 (.int .i64 ct :: dc ch)] :: R) w2 := hA3
  refine vc_y hF rfl rfl (by decide) _ (y_assign rfl rfl) (fun a hF => ?_)
  refine vc_nil ?_
  refine hK1 _ _ ?_; clear  hK1 K1
  apply wp_seq_k; intro K2 hK2
  by_cases h1 : 1 ≤ ct
  · by_cases h2 : ct ≤ 1099511627776
    · refine wp_region_lit ?_
      refine vc_y hF rfl rfl (by decide) _ (y_field rfl Tryd.underlying25 rfl sz3_spx (by decide) rfl (rfl : (⟨_, 0 + _, none⟩ : Addr) = ⟨_, 0, none⟩)) (fun a hF => ?_)
      refine vc_y hF rfl rfl (by decide) _ (y_ld rfl hA3.q rfl 0 rfl rfl nr3_spx) (fun a hF => ?_)
      refine vc_y hF rfl rfl (by decide) _ (y_cmp rfl rfl rfl rfl (geq_t (by omega))) (fun a hF => ?_)
      refine vc_y hF rfl rfl (by decide) _ (y_move rfl rfl) (fun a hF => ?_)
      refine vc_yg hF rfl rfl rfl rfl rfl (by decide) _ (y_field rfl Tryd.underlying25 rfl sz3_spx (by decide) rfl (rfl : (⟨_, 0 + _, none⟩ : Addr) = ⟨_, 0, none⟩)) (fun a hF => ?_)
      refine vc_yg hF rfl rfl rfl rfl rfl (by decide) _ (y_ld rfl hA3.q rfl 0 rfl rfl nr3_spx) (fun a hF => ?_)
      refine vc_yg hF rfl rfl rfl rfl rfl (by decide) _ (y_cmp rfl rfl rfl rfl (leq_t (by omega))) (fun a hF => ?_)
      refine vc_y hF rfl rfl (by decide) _ (y_pick rfl rfl rfl) (fun a hF => ?_)
      refine vc_y hF rfl rfl (by decide) _ (y_assign rfl rfl) (fun a hF => ?_)
      refine vc_nil ?_
      refine hK2 _ _ ?_; clear  hK2 K2
      apply wp_ret
      refine vc_ret1 hF Tryd.results46 rfl ?_
      have hA4 : Hp w0 (R) w2 := Hp.sel [[row b1 25 (.int .i64 ct :: dc ch)]] R [] [0] hA3 rfl
      exact ⟨by rw [decide_eq_true (by omega)], hA4⟩
    · refine wp_region_lit ?_
      refine vc_y hF rfl rfl (by decide) _ (y_field rfl Tryd.underlying25 rfl sz3_spx (by decide) rfl (rfl : (⟨_, 0 + _, none⟩ : Addr) = ⟨_, 0, none⟩)) (fun a hF => ?_)
      refine vc_y hF rfl rfl (by decide) _ (y_ld rfl hA3.q rfl 0 rfl rfl nr3_spx) (fun a hF => ?_)
      refine vc_y hF rfl rfl (by decide) _ (y_cmp rfl rfl rfl rfl (geq_t (by omega))) (fun a hF => ?_)
      refine vc_y hF rfl rfl (by decide) _ (y_move rfl rfl) (fun a hF => ?_)
      refine vc_yg hF rfl rfl rfl rfl rfl (by decide) _ (y_field rfl Tryd.underlying25 rfl sz3_spx (by decide) rfl (rfl : (⟨_, 0 + _, none⟩ : Addr) = ⟨_, 0, none⟩)) (fun a hF => ?_)
      refine vc_yg hF rfl rfl rfl rfl rfl (by decide) _ (y_ld rfl hA3.q rfl 0 rfl rfl nr3_spx) (fun a hF => ?_)
      refine vc_yg hF rfl rfl rfl rfl rfl (by decide) _ (y_cmp rfl rfl rfl rfl (leq_f (by omega))) (fun a hF => ?_)
      refine vc_y hF rfl rfl (by decide) _ (y_pick rfl rfl rfl) (fun a hF => ?_)
      refine vc_y hF rfl rfl (by decide) _ (y_assign rfl rfl) (fun a hF => ?_)
      refine vc_nil ?_
      refine hK2 _ _ ?_; clear  hK2 K2
      apply wp_ret
      refine vc_ret1 hF Tryd.results46 rfl ?_
      have hA5 : Hp w0 (R) w2 := Hp.sel [[row b1 25 (.int .i64 ct :: dc ch)]] R [] [0] hA3 rfl
      exact ⟨by rw [decide_eq_false (by omega)], hA5⟩
  · refine wp_region_lit ?_
    refine vc_y hF rfl rfl (by decide) _ (y_field rfl Tryd.underlying25 rfl sz3_spx (by decide) rfl (rfl : (⟨_, 0 + _, none⟩ : Addr) = ⟨_, 0, none⟩)) (fun a hF => ?_)
    refine vc_y hF rfl rfl (by decide) _ (y_ld rfl hA3.q rfl 0 rfl rfl nr3_spx) (fun a hF => ?_)
    refine vc_y hF rfl rfl (by decide) _ (y_cmp rfl rfl rfl rfl (geq_f (by omega))) (fun a hF => ?_)
    refine vc_y hF rfl rfl (by decide) _ (y_move rfl rfl) (fun a hF => ?_)
    refine vc_skip hF rfl rfl rfl rfl rfl rfl (by decide) (fun a hF => ?_)
    refine vc_skip hF rfl rfl rfl rfl rfl rfl (by decide) (fun a hF => ?_)
    refine vc_skip hF rfl rfl rfl rfl rfl rfl (by decide) (fun a hF => ?_)
    refine vc_y hF rfl rfl (by decide) _ (y_pick rfl rfl rfl) (fun a hF => ?_)
    refine vc_y hF rfl rfl (by decide) _ (y_assign rfl rfl) (fun a hF => ?_)
    refine vc_nil ?_
    refine hK2 _ _ ?_; clear  hK2 K2
    apply wp_ret
    refine vc_ret1 hF Tryd.results46 rfl ?_
    have hA6 : Hp w0 (R) w2 := Hp.sel [[row b1 25 (.int .i64 ct :: dc ch)]] R [] [0] hA3 rfl
    exact ⟨by rw [decide_eq_false (by omega)], hA6⟩

set_option maxRecDepth 100000 in
theorem sp_ones8 (w0 w : World) (R : List Seg) (b : UInt8) (hA : Hp w0 R w) : Calls Tryd.prog 94 #[.int .u8 (b.toNat : Int)] w fun e w' => e = .returned (.int .i64 ((pop8N b : Nat) : Int)) ∧ Hp w0 R w' := by
  have h0 : (0 : Int) ≤ (b.toNat : Int) := by omega
  have h1 : (b.toNat : Int) ≤ 255 := by have := b.toNat_lt; omega
  have h2 : Calls Tryd.prog 94 #[.int .u8 (b.toNat : Int)] w fun e w' => e = .returned (.int .i64 (Lib.onesCount (b.toNat : Int).toNat)) ∧ w' = w := by
    rw [← Lib.pop8_int _ h0 h1]
    go_enter Tryd.func94, Tryd.ntmps94
    go_wp2
    go_ret
    exact ⟨by simp [wrap64], rfl⟩
  refine h2.mono ?_
  rintro e w' ⟨rfl, rfl⟩
  exact ⟨rfl, hA⟩

theorem sp_ent0 (w : World) : (Instr.build 25 #[]).run Tryd.prog w = .ok (.agg (.int .i64 0 :: dc (List.replicate 32 0)).toArray) w := by kernel_rfl
noncomputable def entF1 : Field := (Tryd.prog.fieldsOf 25)[0]?.getD default
noncomputable def entF2 : Field := (Tryd.prog.fieldsOf 25)[1]?.getD default
theorem sp_entF : (Tryd.prog.fieldsOf 25).toList = [entF1, entF2] := by kernel_rfl

set_option maxRecDepth 100000 in
set_option maxHeartbeats 2000000 in
theorem sp_formed (w0 w : World) (R : List Seg) (p : Prf) (sA : Option Addr) (sC : Nat) (hp : p.OK) (hA : Hp w0 R w) : Calls Tryd.prog 73 #[.agg (p.cells (.slice sA p.ss.length sC)).toArray] w fun e w' => e = .returned (.bool p.formed) ∧ Hp w0 R w' := by
  refine vc_enter Tryd.func73 rfl Tryd.ntmps73 (Nat.le_of_ble_eq_true rfl) (fun a hF => ?_)
  apply wp_seq_k; intro K1 hK1
  refine wp_region_lit ?_
  refine vc_op rfl (fun K hK => hs_box (cs := p.cells (.slice sA p.ss.length sC)) hF rfl (by decide) rfl hA rfl (fun b1 w2 a hb1 hF hA3 => hK _ _ ?_))
  clear hK K
  replace hA3 : Hp w0 ([row b1 28 (p.cells (.slice sA p.ss.length sC))] :: R) w2 := hA3
  refine vc_y hF rfl rfl (by decide) _ (y_assign rfl rfl) (fun a hF => ?_)
  refine vc_nil ?_
  refine hK1 _ _ ?_; clear  hK1 K1
  apply wp_seq_k; intro K2 hK2
  refine wp_region_lit ?_
  refine vc_y hF rfl rfl (by decide) _ (y_assign rfl rfl) (fun a hF => ?_)
  refine vc_nil ?_
  refine hK2 _ _ ?_; clear  hK2 K2
  apply wp_seq_k; intro K3 hK3
  apply wp_seq_k; intro K4 hK4
  refine wp_region_lit ?_
  refine vc_y hF rfl rfl (by decide) _ (y_field rfl Tryd.underlying28 rfl sz22_spx (by decide) rfl (rfl : (⟨_, 0 + _, none⟩ : Addr) = ⟨_, 34, none⟩)) (fun a hF => ?_)
  refine vc_y hF rfl rfl (by decide) _ (y_ldRow rfl hA3.q rfl 0 rfl rw22_spx (by rw [Prf.c_len hp]; decide) (Prf.c_bits hp)) (fun a hF => ?_)
  refine vc_y hF rfl rfl (by decide) _ (y_move rfl rfl) (fun a hF => ?_)
  refine vc_nil ?_
  refine hK4 _ _ ?_; clear  hK4 K4
  apply wp_block
  refine vc_loop (G := Nat) (fun i a x => i ≤ 32 ∧ Fr 39 [(8, .int .i64 (i : Int)), (3, .int .i64 ((onesN p.bs (8 * i) : Nat) : Int)), (1, .pointer (some ⟨b1, 0, none⟩)), (7, .agg (dc p.bs).toArray)] a ∧ Hp w0 ([row b1 28 (p.cells (.slice sA p.ss.length sC))] :: R) x) (fun i => 32 - i) 0 (⟨Nat.zero_le _, hF.keep [8, 3, 1, 7] rfl, hA3⟩) ?_
  clear hF
  rintro i a w5 ⟨hi, hF, hA4⟩
  apply wp_seq_k; intro K5 hK5
  refine wp_region_lit ?_
  refine vc_y hF rfl rfl (by decide) _ (y_cmp rfl rfl rfl rfl rfl) (fun a hF => ?_)
  refine vc_nil ?_
  refine hK5 _ _ ?_; clear  hK5 K5
  apply wp_seq_k; intro K6 hK6
  by_cases hlt : i < 32
  · refine vc_trueB hF rfl (lss_t (by omega)) ?_
    have hb1 := onesN_le p.bs (8 * i)
    have hb2 := pop8N_le (bAt p.bs i)
    have hb3 : onesN p.bs (8 * (i + 1)) = onesN p.bs (8 * i) + pop8N (bAt p.bs i) := onesN_byte p.bs i
    apply wp_skip
    refine hK6 _ _ ?_; clear  hK6 K6
    apply wp_seq_k; intro K7 hK7
    apply wp_block
    apply wp_seq_k; intro K8 hK8
    refine wp_region_lit ?_
    refine vc_y hF rfl rfl (by decide) _ (y_indexB rfl Tryd.underlying22 Tryd.underlying5 sz5_spx rfl rfl i rfl hlt (dc_at (by rw [hp.bs]; exact hlt))) (fun a hF => ?_)
    refine vc_y hF rfl rfl (by decide) _ (y_assign rfl rfl) (fun a hF => ?_)
    refine vc_nil ?_
    refine hK8 _ _ ?_; clear  hK8 K8
    refine wp_region_lit ?_
    refine vc_y hF rfl rfl (by decide) _ (y_move rfl rfl) (fun a hF => ?_)
    refine vc_y hF rfl rfl (by decide) _ (y_move rfl rfl) (fun a hF => ?_)
    refine vc_op rfl (fun K hK => ws_call hF rfl (by decide) cl94_spx rfl rfl ?_)
    with_reducible refine (sp_ones8 w0 _ ([row b1 28 (p.cells (.slice sA p.ss.length sC))] :: R) (bAt p.bs i) hA4 ).mono ?_
    rintro e' w6 ⟨rfl, hA7⟩
    refine ⟨_, rfl, fun a hF => hK _ _ ?_⟩
    clear hK K
    replace hA7 : Hp w0 ([row b1 28 (p.cells (.slice sA p.ss.length sC))] :: R) w6 := hA7
    refine vc_y hF rfl rfl (by decide) _ (y_add rfl rfl rfl (show IntKind.i64.wrap (((onesN p.bs (8 * i) : Nat) : Int) + ((pop8N (bAt p.bs i) : Nat) : Int)) = ((onesN p.bs (8 * (i + 1)) : Nat) : Int) by rw [IntWalk.i64_in _ (by omega)]; omega)) (fun a hF => ?_)
    refine vc_y hF rfl rfl (by decide) _ (y_assign rfl rfl) (fun a hF => ?_)
    refine vc_nil ?_
    refine hK7 _ _ ?_; clear  hK7 K7
    refine wp_region_lit ?_
    refine vc_y hF rfl rfl (by decide) _ (y_add rfl rfl rfl (IntWalk.i64_in _ (by omega))) (fun a hF => ?_)
    refine vc_y hF rfl rfl (by decide) _ (y_move rfl rfl) (fun a hF => ?_)
    refine vc_nil ?_
    exact ⟨i + 1, by omega, by omega, hF.keep [8, 3, 1, 7] rfl, hA7⟩
  · refine vc_falseB hF rfl (lss_f (by omega)) ?_
    obtain rfl : i = 32 := by omega
    have hb1 := onesN_le p.bs 256
    replace hF := hF.keep [3, 1] (F' := [(3, .int .i64 ((onesN p.bs 256 : Nat) : Int)), (1, .pointer (some ⟨b1, 0, none⟩))]) rfl
    apply wp_exit
    refine hK3 _ _ ?_; clear hK6 K6 hK3 K3
    apply wp_seq_k; intro K9 hK9
    apply wp_seq_k; intro K10 hK10
    refine wp_region_lit ?_
    refine vc_y hF rfl rfl (by decide) _ (y_field rfl Tryd.underlying28 rfl sz4_spx (by decide) rfl (rfl : (⟨_, 0 + _, none⟩ : Addr) = ⟨_, 0, none⟩)) (fun a hF => ?_)
    refine vc_y hF rfl rfl (by decide) _ (y_ld rfl hA4.q rfl 0 rfl rfl nr4_spx) (fun a hF => ?_)
    refine vc_nil ?_
    refine hK10 _ _ ?_; clear  hK10 K10
    by_cases hpr : p.pr = true
    · refine vc_trueB hF rfl hpr ?_
      by_cases heq : onesN p.bs 256 = p.ss.length
      · apply wp_seq_k; intro K11 hK11
        refine wp_region_lit ?_
        refine vc_y hF rfl rfl (by decide) _ (y_move rfl rfl) (fun a hF => ?_)
        refine vc_y hF rfl rfl (by decide) _ (y_field rfl Tryd.underlying28 rfl sz26_spx (by decide) rfl (rfl : (⟨_, 0 + _, none⟩ : Addr) = ⟨_, 66, none⟩)) (fun a hF => ?_)
        refine vc_y hF rfl rfl (by decide) _ (y_ld rfl hA4.q rfl 0 rfl (Prf.c_sums hp) nr26_spx) (fun a hF => ?_)
        refine vc_y hF rfl rfl (by decide) _ (y_lenSl rfl Tryd.underlying26 rfl rfl) (fun a hF => ?_)
        refine vc_y hF rfl rfl (by decide) _ (y_cmp rfl rfl rfl rfl (eql_t (by omega))) (fun a hF => ?_)
        refine vc_y hF rfl rfl (by decide) _ (y_move rfl rfl) (fun a hF => ?_)
        refine vc_yg hF rfl rfl rfl rfl rfl (by decide) _ (y_field rfl Tryd.underlying28 rfl sz25_spx (by decide) rfl (rfl : (⟨_, 0 + _, none⟩ : Addr) = ⟨_, 1, none⟩)) (fun a hF => ?_)
        refine vc_yg hF rfl rfl rfl rfl rfl (by decide) _ (y_ldRow rfl hA4.q rfl 0 rfl rw25_spx (by rw [Prf.c_len hp]; decide) (Prf.c_ent hp)) (fun a hF => ?_)
        refine vc_opg hF rfl rfl rfl rfl (fun K hK => ws_call hF rfl (by decide) cl56_spx rfl rfl ?_)
        with_reducible refine (sp_counted w0 _ ([row b1 28 (p.cells (.slice sA p.ss.length sC))] :: R) p.ct p.ch hA4 ).mono ?_
        rintro e' w8 ⟨rfl, hA9⟩
        refine ⟨_, rfl, fun a hF => hK _ _ ?_⟩
        clear hK K
        replace hA9 : Hp w0 ([row b1 28 (p.cells (.slice sA p.ss.length sC))] :: R) w8 := hA9
        refine vc_y hF rfl rfl (by decide) _ (y_pick rfl rfl rfl) (fun a hF => ?_)
        refine vc_y hF rfl rfl (by decide) _ (y_assign rfl rfl) (fun a hF => ?_)
        refine vc_nil ?_
        refine hK11 _ _ ?_; clear  hK11 K11
        apply wp_ret
        simp only [Exit.then]
        refine vc_ret1 hF Tryd.results73 rfl ?_
        have hA10 : Hp w0 (R) w8 := Hp.sel [[row b1 28 (p.cells (.slice sA p.ss.length sC))]] R [] [0] hA9 rfl
        exact ⟨by rw [show p.formed = decide (1 ≤ p.ct ∧ p.ct ≤ 1099511627776) by simp [Prf.formed, hpr, heq, Prf.counted, Prf.blank]], hA10⟩
      · apply wp_seq_k; intro K12 hK12
        refine wp_region_lit ?_
        refine vc_y hF rfl rfl (by decide) _ (y_move rfl rfl) (fun a hF => ?_)
        refine vc_y hF rfl rfl (by decide) _ (y_field rfl Tryd.underlying28 rfl sz26_spx (by decide) rfl (rfl : (⟨_, 0 + _, none⟩ : Addr) = ⟨_, 66, none⟩)) (fun a hF => ?_)
        refine vc_y hF rfl rfl (by decide) _ (y_ld rfl hA4.q rfl 0 rfl (Prf.c_sums hp) nr26_spx) (fun a hF => ?_)
        refine vc_y hF rfl rfl (by decide) _ (y_lenSl rfl Tryd.underlying26 rfl rfl) (fun a hF => ?_)
        refine vc_y hF rfl rfl (by decide) _ (y_cmp rfl rfl rfl rfl (eql_f (by omega))) (fun a hF => ?_)
        refine vc_y hF rfl rfl (by decide) _ (y_move rfl rfl) (fun a hF => ?_)
        refine vc_skip hF rfl rfl rfl rfl rfl rfl (by decide) (fun a hF => ?_)
        refine vc_skip hF rfl rfl rfl rfl rfl rfl (by decide) (fun a hF => ?_)
        refine vc_skip hF rfl rfl rfl rfl rfl rfl (by decide) (fun a hF => ?_)
        refine vc_y hF rfl rfl (by decide) _ (y_pick rfl rfl rfl) (fun a hF => ?_)
        refine vc_y hF rfl rfl (by decide) _ (y_assign rfl rfl) (fun a hF => ?_)
        refine vc_nil ?_
        refine hK12 _ _ ?_; clear  hK12 K12
        apply wp_ret
        simp only [Exit.then]
        refine vc_ret1 hF Tryd.results73 rfl ?_
        have hA11 : Hp w0 (R) w5 := Hp.sel [[row b1 28 (p.cells (.slice sA p.ss.length sC))]] R [] [0] hA4 rfl
        exact ⟨by rw [show p.formed = false by simp [Prf.formed, hpr, heq, Prf.counted, Prf.blank]], hA11⟩
    · have hpr2 : p.pr = false := by simpa using hpr
      refine vc_falseB hF rfl hpr2 ?_
      by_cases heq : onesN p.bs 256 = p.ss.length
      · apply wp_skip
        refine hK9 _ _ ?_; clear  hK9 K9
        apply wp_seq_k; intro K13 hK13
        refine wp_region_lit ?_
        refine vc_y hF rfl rfl (by decide) _ (y_move rfl rfl) (fun a hF => ?_)
        refine vc_y hF rfl rfl (by decide) _ (y_field rfl Tryd.underlying28 rfl sz26_spx (by decide) rfl (rfl : (⟨_, 0 + _, none⟩ : Addr) = ⟨_, 66, none⟩)) (fun a hF => ?_)
        refine vc_y hF rfl rfl (by decide) _ (y_ld rfl hA4.q rfl 0 rfl (Prf.c_sums hp) nr26_spx) (fun a hF => ?_)
        refine vc_y hF rfl rfl (by decide) _ (y_lenSl rfl Tryd.underlying26 rfl rfl) (fun a hF => ?_)
        refine vc_y hF rfl rfl (by decide) _ (y_cmp rfl rfl rfl rfl (eql_t (by omega))) (fun a hF => ?_)
        refine vc_y hF rfl rfl (by decide) _ (y_move rfl rfl) (fun a hF => ?_)
        refine vc_yg hF rfl rfl rfl rfl rfl (by decide) _ (y_field rfl Tryd.underlying28 rfl sz25_spx (by decide) rfl (rfl : (⟨_, 0 + _, none⟩ : Addr) = ⟨_, 1, none⟩)) (fun a hF => ?_)
        refine vc_yg hF rfl rfl rfl rfl rfl (by decide) _ (y_ldRow rfl hA4.q rfl 0 rfl rw25_spx (by rw [Prf.c_len hp]; decide) (Prf.c_ent hp)) (fun a hF => ?_)
        refine vc_yg hF rfl rfl rfl rfl rfl (by decide) _ (y_build0 rfl sp_ent0) (fun a hF => ?_)
        refine vc_yg hF rfl rfl rfl rfl rfl (by decide) _ (y_eqEnt rfl (by kernel_rfl) (by kernel_rfl) (by kernel_rfl) sp_entF (by decide) (by decide) rfl rfl Tryd.underlying3 Tryd.underlying23 Tryd.underlying5 sz5_spx sz23_spx hp.ch rfl rfl rfl rfl) (fun a hF => ?_)
        refine vc_y hF rfl rfl (by decide) _ (y_pick rfl rfl rfl) (fun a hF => ?_)
        refine vc_y hF rfl rfl (by decide) _ (y_assign rfl rfl) (fun a hF => ?_)
        refine vc_nil ?_
        refine hK13 _ _ ?_; clear  hK13 K13
        apply wp_ret
        refine vc_ret1 hF Tryd.results73 rfl ?_
        have hA12 : Hp w0 (R) w5 := Hp.sel [[row b1 28 (p.cells (.slice sA p.ss.length sC))]] R [] [0] hA4 rfl
        exact ⟨by rw [show p.formed = decide (p.ct = 0 ∧ p.ch = List.replicate 32 0) by simp [Prf.formed, hpr, heq, Prf.counted, Prf.blank]], hA12⟩
      · apply wp_skip
        refine hK9 _ _ ?_; clear  hK9 K9
        apply wp_seq_k; intro K14 hK14
        refine wp_region_lit ?_
        refine vc_y hF rfl rfl (by decide) _ (y_move rfl rfl) (fun a hF => ?_)
        refine vc_y hF rfl rfl (by decide) _ (y_field rfl Tryd.underlying28 rfl sz26_spx (by decide) rfl (rfl : (⟨_, 0 + _, none⟩ : Addr) = ⟨_, 66, none⟩)) (fun a hF => ?_)
        refine vc_y hF rfl rfl (by decide) _ (y_ld rfl hA4.q rfl 0 rfl (Prf.c_sums hp) nr26_spx) (fun a hF => ?_)
        refine vc_y hF rfl rfl (by decide) _ (y_lenSl rfl Tryd.underlying26 rfl rfl) (fun a hF => ?_)
        refine vc_y hF rfl rfl (by decide) _ (y_cmp rfl rfl rfl rfl (eql_f (by omega))) (fun a hF => ?_)
        refine vc_y hF rfl rfl (by decide) _ (y_move rfl rfl) (fun a hF => ?_)
        refine vc_skip hF rfl rfl rfl rfl rfl rfl (by decide) (fun a hF => ?_)
        refine vc_skip hF rfl rfl rfl rfl rfl rfl (by decide) (fun a hF => ?_)
        refine vc_skip hF rfl rfl rfl rfl rfl rfl (by decide) (fun a hF => ?_)
        refine vc_skip hF rfl rfl rfl rfl rfl rfl (by decide) (fun a hF => ?_)
        refine vc_y hF rfl rfl (by decide) _ (y_pick rfl rfl rfl) (fun a hF => ?_)
        refine vc_y hF rfl rfl (by decide) _ (y_assign rfl rfl) (fun a hF => ?_)
        refine vc_nil ?_
        refine hK14 _ _ ?_; clear  hK14 K14
        apply wp_ret
        refine vc_ret1 hF Tryd.results73 rfl ?_
        have hA13 : Hp w0 (R) w5 := Hp.sel [[row b1 28 (p.cells (.slice sA p.ss.length sC))]] R [] [0] hA4 rfl
        exact ⟨by rw [show p.formed = false by simp [Prf.formed, hpr, heq, Prf.counted, Prf.blank]], hA13⟩
end Go.Proofs.YtpomngkcfbnjoaaDoor
