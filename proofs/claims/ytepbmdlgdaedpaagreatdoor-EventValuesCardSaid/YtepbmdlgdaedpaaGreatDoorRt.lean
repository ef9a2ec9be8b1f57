/- The reference's takings. -/
import Derived.Test.YtepbmdlgdaedpaaGreatDoorOctetS
import Derived.Test.YtepbmdlgdaedpaaGreatDoorKb
import Derived.Test.YtepbmdlgdaedpaaGreatDoorBook3
import Derived.Test.YtepbmdlgdaedpaaGreatDoorBook1
namespace Go.Proofs.YtepbmdlgdaedpaaGreatDoor
open Go.RowKit Go.Dk

theorem rt_ok {α : Type} {r : Res α} {x : α} {k : Nat} (h : r = .ok x k) (d : α) : r.val d 0 = x ∧ r.pl 0 0 = k ∧ r.why 0 = 0 := by
  subst h
  refine ⟨rfl, ?_, rfl⟩
  show 0 + k = k
  omega
theorem rt_no {α : Type} {r : Res α} {e : Nat} (h : r = .no e) (d : α) : r.val d 0 = d ∧ r.pl 0 0 = 0 ∧ r.why 0 = e := by
  subst h; exact ⟨rfl, rfl, rfl⟩
theorem rt_num1 (r : List UInt8) (h : 0 < r.length) : num (r.take 1) = (bAt r 0).toNat := by
  have h1 := num_take h
  rw [h1]; simp [num]
theorem nr5_rt : notRow Tryz.prog 5 = true := by kernel_rfl
theorem nr9_rt : notRow Tryz.prog 9 = true := by kernel_rfl
theorem sz5_rt : (Tryz.prog.info? 5).map (·.size) = some 1 := by kernel_rfl
theorem sz9_rt : (Tryz.prog.info? 9).map (·.size) = some 1 := by kernel_rfl
theorem cl110_rt : CallsTo Tryz.prog 110 := ⟨_, Tryz.func110, by kernel_rfl, by kernel_rfl⟩
theorem cl112_rt : CallsTo Tryz.prog 112 := ⟨_, Tryz.func112, by kernel_rfl, by kernel_rfl⟩
theorem cl158_rt : CallsTo Tryz.prog 158 := ⟨_, Tryz.func158, by kernel_rfl, by kernel_rfl⟩
theorem cl159_rt : CallsTo Tryz.prog 159 := ⟨_, Tryz.func159, by kernel_rfl, by kernel_rfl⟩
theorem cl193_rt : CallsTo Tryz.prog 193 := ⟨_, Tryz.func193, by kernel_rfl, by kernel_rfl⟩

set_option maxRecDepth 100000 in
set_option maxHeartbeats 4000000 in
theorem rt_least (w : World) (m k : Int) (hk : 0 ≤ k) : Calls Tryz.prog 159 #[.int .i64 m, .int .i64 k] w fun e w' => e = .returned (.int .i64 (bnd m k)) ∧ w = w' := by
  refine vc_enter Tryz.func159 rfl Tryz.ntmps159 (Nat.le_of_ble_eq_true rfl) (fun a hF => ?_)
  apply wp_seq_k; intro K1 hK1
  refine wp_region_lit ?_
  refine vc_y hF rfl rfl (by decide) _ (y_assign rfl rfl) (fun a hF => ?_)
  refine vc_nil ?_
  refine hK1 _ _ ?_; clear  hK1 K1
  apply wp_seq_k; intro K2 hK2
  apply wp_seq_k; intro K3 hK3
  refine wp_region_lit ?_
  refine vc_y hF rfl rfl (by decide) _ (y_move rfl rfl) (fun a hF => ?_)
  refine vc_y hF rfl rfl (by decide) _ (y_cmp rfl rfl rfl rfl rfl) (fun a hF => ?_)
  refine vc_nil ?_
  refine hK3 _ _ ?_; clear  hK3 K3
  by_cases h1 : m < 0
  · refine vc_trueB hF rfl (lss_t (by omega)) ?_
    apply wp_seq_k; intro K4 hK4
    refine wp_region_lit ?_
    refine vc_y hF rfl rfl (by decide) _ (y_assign rfl rfl) (fun a hF => ?_)
    refine vc_nil ?_
    refine hK4 _ _ ?_; clear  hK4 K4
    apply wp_ret
    simp only [Exit.then]
    refine vc_ret1 hF Tryz.results159 rfl ?_
    exact ⟨by rw [show bnd m k = 0 by unfold bnd; omega], rfl⟩
  · refine vc_falseB hF rfl (lss_f (by omega)) ?_
    apply wp_skip
    refine hK2 _ _ ?_; clear  hK2 K2
    apply wp_seq_k; intro K5 hK5
    apply wp_seq_k; intro K6 hK6
    refine wp_region_lit ?_
    refine vc_y hF rfl rfl (by decide) _ (y_move rfl rfl) (fun a hF => ?_)
    refine vc_y hF rfl rfl (by decide) _ (y_move rfl rfl) (fun a hF => ?_)
    refine vc_y hF rfl rfl (by decide) _ (y_cmp rfl rfl rfl rfl rfl) (fun a hF => ?_)
    refine vc_nil ?_
    refine hK6 _ _ ?_; clear  hK6 K6
    by_cases h2 : m < k
    · refine vc_trueB hF rfl (lss_t (by omega)) ?_
      apply wp_seq_k; intro K7 hK7
      refine wp_region_lit ?_
      refine vc_y hF rfl rfl (by decide) _ (y_move rfl rfl) (fun a hF => ?_)
      refine vc_y hF rfl rfl (by decide) _ (y_assign rfl rfl) (fun a hF => ?_)
      refine vc_nil ?_
      refine hK7 _ _ ?_; clear  hK7 K7
      apply wp_ret
      simp only [Exit.then]
      refine vc_ret1 hF Tryz.results159 rfl ?_
      exact ⟨by rw [show bnd m k = m by unfold bnd; omega], rfl⟩
    · refine vc_falseB hF rfl (lss_f (by omega)) ?_
      apply wp_skip
      refine hK5 _ _ ?_; clear  hK5 K5
      apply wp_seq_k; intro K8 hK8
      refine wp_region_lit ?_
      refine vc_y hF rfl rfl (by decide) _ (y_move rfl rfl) (fun a hF => ?_)
      refine vc_y hF rfl rfl (by decide) _ (y_assign rfl rfl) (fun a hF => ?_)
      refine vc_nil ?_
      refine hK8 _ _ ?_; clear  hK8 K8
      apply wp_ret
      refine vc_ret1 hF Tryz.results159 rfl ?_
      exact ⟨by rw [show bnd m k = k by unfold bnd; omega], rfl⟩

set_option maxRecDepth 100000 in
set_option maxHeartbeats 4000000 in
theorem rt_number (w0 w : World) (R : List Seg) (A : Option Addr) (r : List UInt8) (c kk : Nat) (z : Int) (hz : z = kk) (hK : kk ≤ 8) (hR : Rd w0 R A r) (hA : Hp w0 R w) (hl : r.length < 140737488354000) : Calls Tryz.prog 110 #[.slice A r.length c, .int .i64 z] w fun e w' => e = .returned (.tuple #[.int .u64 (((numR kk r).val 0 0 : Nat) : Int), .int .i64 (((numR kk r).pl 0 0 : Nat) : Int), .int .i64 (((numR kk r).why 0 : Nat) : Int)]) ∧ w = w' := by
  subst hz
  refine vc_enter Tryz.func110 rfl Tryz.ntmps110 (Nat.le_of_ble_eq_true rfl) (fun a hF => ?_)
  apply wp_seq_k; intro K1 hK1
  refine wp_region_lit ?_
  refine vc_y hF rfl rfl (by decide) _ (y_assign rfl rfl) (fun a hF => ?_)
  refine vc_y hF rfl rfl (by decide) _ (y_assign rfl rfl) (fun a hF => ?_)
  refine vc_y hF rfl rfl (by decide) _ (y_assign rfl rfl) (fun a hF => ?_)
  refine vc_nil ?_
  refine hK1 _ _ ?_; clear  hK1 K1
  apply wp_seq_k; intro K2 hK2
  apply wp_seq_k; intro K3 hK3
  refine wp_region_lit ?_
  refine vc_y hF rfl rfl (by decide) _ (y_move rfl rfl) (fun a hF => ?_)
  refine vc_y hF rfl rfl (by decide) _ (y_lenSl rfl Tryz.underlying27 rfl rfl) (fun a hF => ?_)
  refine vc_y hF rfl rfl (by decide) _ (y_move rfl rfl) (fun a hF => ?_)
  refine vc_y hF rfl rfl (by decide) _ (y_cmp rfl rfl rfl rfl rfl) (fun a hF => ?_)
  refine vc_nil ?_
  refine hK3 _ _ ?_; clear  hK3 K3
  by_cases hk : r.length < kk
  · refine vc_trueB hF rfl (lss_t (by omega)) ?_
    obtain ⟨h1, h2, h3⟩ := rt_no (show numR kk r = .no 8 from if_pos hk) 0
    rw [h1, h2, h3]
    apply wp_seq_k; intro K4 hK4
    refine wp_region_lit ?_
    refine vc_y hF rfl rfl (by decide) _ (y_assign rfl rfl) (fun a hF => ?_)
    refine vc_y hF rfl rfl (by decide) _ (y_assign rfl rfl) (fun a hF => ?_)
    refine vc_y hF rfl rfl (by decide) _ (y_assign rfl rfl) (fun a hF => ?_)
    refine vc_nil ?_
    refine hK4 _ _ ?_; clear  hK4 K4
    apply wp_ret
    simp only [Exit.then]
    refine vc_ret3 hF Tryz.results110 rfl rfl rfl ?_
    exact ⟨rfl, rfl⟩
  · refine vc_falseB hF rfl (lss_f (by omega)) ?_
    obtain ⟨h1, h2, h3⟩ := rt_ok (show numR kk r = .ok (num (r.take kk)) kk from if_neg hk) 0
    apply wp_skip
    refine hK2 _ _ ?_; clear  hK2 K2
    apply wp_seq_k; intro K5 hK5
    refine wp_region_lit ?_
    refine vc_y hF rfl rfl (by decide) _ (y_assign rfl rfl) (fun a hF => ?_)
    refine vc_nil ?_
    refine hK5 _ _ ?_; clear  hK5 K5
    apply wp_seq_k; intro K6 hK6
    apply wp_seq_k; intro K7 hK7
    refine wp_region_lit ?_
    refine vc_y hF rfl rfl (by decide) _ (y_assign rfl rfl) (fun a hF => ?_)
    refine vc_nil ?_
    refine hK7 _ _ ?_; clear  hK7 K7
    apply wp_block
    refine vc_loop (G := Nat) (fun i a x => i ≤ kk ∧ x = w ∧ Fr 28 [(7, .int .u64 ((num (r.take i) : Nat) : Int)), (8, .int .i64 (i : Int)), (0, .slice A r.length c), (1, .int .i64 ((kk : Nat) : Int))] a ∧ Hp w0 (R) x) (fun i => kk - i) 0 (⟨Nat.zero_le _, rfl, hF.keep [7, 8, 0, 1] rfl, hA⟩) ?_
    clear hF
    rintro i a w2 ⟨hi, hx, hF, hA1⟩
    subst hx
    apply wp_seq_k; intro K8 hK8
    apply wp_seq_k; intro K9 hK9
    refine wp_region_lit ?_
    refine vc_y hF rfl rfl (by decide) _ (y_move rfl rfl) (fun a hF => ?_)
    refine vc_y hF rfl rfl (by decide) _ (y_move rfl rfl) (fun a hF => ?_)
    refine vc_y hF rfl rfl (by decide) _ (y_cmp rfl rfl rfl rfl rfl) (fun a hF => ?_)
    refine vc_nil ?_
    refine hK9 _ _ ?_; clear  hK9 K9
    by_cases hlt : i < kk
    · refine vc_trueB hF rfl (lss_t (by omega)) ?_
      have hir : i < r.length := by omega
      have hnm := num_take hir
      have hns := num_small (l := r) (i := i) (K := kk) hlt hK
      have hb8 := UInt8.toNat_lt (bAt r i)
      obtain ⟨b, o, rfl, hc⟩ := hR.ne (i := i) (by rw [dc_length]; exact hir)
      apply wp_skip
      refine hK8 _ _ ?_; clear  hK8 K8
      apply wp_seq_k; intro K10 hK10
      apply wp_block
      refine wp_region_lit ?_
      refine vc_y hF rfl rfl (by decide) _ (y_move rfl rfl) (fun a hF => ?_)
      refine vc_y hF rfl rfl (by decide) _ (y_mul (r := ((num (r.take i) * 256 : Nat) : Int)) rfl rfl rfl (by rw [IntKind.wrap_u64]; omega)) (fun a hF => ?_)
      refine vc_y hF rfl rfl (by decide) _ (y_move rfl rfl) (fun a hF => ?_)
      refine vc_y hF rfl rfl (by decide) _ (y_move rfl rfl) (fun a hF => ?_)
      refine vc_y hF rfl rfl (by decide) _ (y_ixSl rfl Tryz.underlying27 sz5_rt rfl rfl i rfl hir (ad2 _ _ _)) (fun a hF => ?_)
      refine vc_y hF rfl rfl (by decide) _ (y_ldC (u := .int .u8 ((bAt r i).toNat : Int)) rfl hA1.q rfl hc i (by rw [dc_length]; exact hir) rfl (dc_at hir) nr5_rt) (fun a hF => ?_)
      refine vc_y hF rfl rfl (by decide) _ (y_conv rfl Tryz.underlying5 Tryz.underlying135 rfl (show IntKind.u64.wrap (((bAt r i).toNat : Int)) = ((bAt r i).toNat : Int) by rw [IntKind.wrap_u64]; omega)) (fun a hF => ?_)
      refine vc_y hF rfl rfl (by decide) _ (y_add (r := ((num (r.take (i + 1)) : Nat) : Int)) rfl rfl rfl (by rw [IntKind.wrap_u64, hnm]; omega)) (fun a hF => ?_)
      refine vc_y hF rfl rfl (by decide) _ (y_assign rfl rfl) (fun a hF => ?_)
      refine vc_nil ?_
      refine hK10 _ _ ?_; clear  hK10 K10
      refine wp_region_lit ?_
      refine vc_y hF rfl rfl (by decide) _ (y_move rfl rfl) (fun a hF => ?_)
      refine vc_y hF rfl rfl (by decide) _ (y_add rfl rfl rfl (IntWalk.i64_in _ (by omega))) (fun a hF => ?_)
      refine vc_y hF rfl rfl (by decide) _ (y_assign rfl rfl) (fun a hF => ?_)
      refine vc_nil ?_
      exact ⟨i + 1, by omega, by omega, rfl, hF.keep [7, 8, 0, 1] rfl, hA1⟩
    · refine vc_falseB hF rfl (lss_f (by omega)) ?_
      obtain rfl : i = kk := by omega
      apply wp_exit
      refine hK6 _ _ ?_; clear hK8 K8 hK6 K6
      apply wp_seq_k; intro K11 hK11
      refine wp_region_lit ?_
      refine vc_y hF rfl rfl (by decide) _ (y_move rfl rfl) (fun a hF => ?_)
      refine vc_y hF rfl rfl (by decide) _ (y_move rfl rfl) (fun a hF => ?_)
      refine vc_y hF rfl rfl (by decide) _ (y_assign rfl rfl) (fun a hF => ?_)
      refine vc_y hF rfl rfl (by decide) _ (y_assign rfl rfl) (fun a hF => ?_)
      refine vc_y hF rfl rfl (by decide) _ (y_assign rfl rfl) (fun a hF => ?_)
      refine vc_nil ?_
      refine hK11 _ _ ?_; clear  hK11 K11
      apply wp_ret
      refine vc_ret3 hF Tryz.results110 rfl rfl rfl ?_
      rw [h1, h2, h3]
      exact ⟨rfl, rfl⟩

theorem rt_eq1 (n : Nat) : cmpB .eql (n : Int) 1 = (n == 1) := by
  by_cases h : n = 1
  · subst h; rfl
  · rw [eql_f (by omega), beq_eq_false_iff_ne.2 h]

set_option maxRecDepth 100000 in
set_option maxHeartbeats 4000000 in
theorem rt_flag (w0 w : World) (R : List Seg) (A : Option Addr) (r : List UInt8) (c : Nat) (hR : Rd w0 R A r) (hA : Hp w0 R w) : Calls Tryz.prog 111 #[.slice A r.length c] w fun e w' => e = .returned (.tuple #[.bool ((flagR r).val false 0), .int .i64 (((flagR r).pl 0 0 : Nat) : Int), .int .i64 (((flagR r).why 0 : Nat) : Int)]) ∧ w = w' := by
  refine vc_enter Tryz.func111 rfl Tryz.ntmps111 (Nat.le_of_ble_eq_true rfl) (fun a hF => ?_)

  by_cases hr0 : 0 < r.length
  · have hr1 := rt_num1 r hr0
    have hb8 := UInt8.toNat_lt (bAt r 0)
    obtain ⟨b, o, rfl, hc⟩ := hR.ne (i := 0) (by rw [dc_length]; exact hr0)
    by_cases hg : 1 < (bAt r 0).toNat
    · obtain ⟨h1, h2, h3⟩ := rt_no (show flagR r = .no 8 from if_pos (.inr (by omega))) false
      rw [h1, h2, h3]
      apply wp_seq_k; intro K1 hK1
      refine wp_region_lit ?_
      refine vc_y hF rfl rfl (by decide) _ (y_assign rfl rfl) (fun a hF => ?_)
      refine vc_y hF rfl rfl (by decide) _ (y_assign rfl rfl) (fun a hF => ?_)
      refine vc_y hF rfl rfl (by decide) _ (y_assign rfl rfl) (fun a hF => ?_)
      refine vc_nil ?_
      refine hK1 _ _ ?_; clear  hK1 K1
      apply wp_seq_k; intro K2 hK2
      apply wp_seq_k; intro K3 hK3
      refine wp_region_lit ?_
      refine vc_y hF rfl rfl (by decide) _ (y_move rfl rfl) (fun a hF => ?_)
      refine vc_y hF rfl rfl (by decide) _ (y_lenSl rfl Tryz.underlying27 rfl rfl) (fun a hF => ?_)
      refine vc_y hF rfl rfl (by decide) _ (y_cmp rfl rfl rfl rfl (eql_f (by omega))) (fun a hF => ?_)
      refine vc_y hF rfl rfl (by decide) _ (y_move rfl rfl) (fun a hF => ?_)
      refine vc_yg hF rfl rfl rfl rfl rfl (by decide) _ (y_move rfl rfl) (fun a hF => ?_)
      refine vc_yg hF rfl rfl rfl rfl rfl (by decide) _ (y_ixSl rfl Tryz.underlying27 sz5_rt rfl rfl 0 rfl hr0 (ad2 _ _ _)) (fun a hF => ?_)
      refine vc_yg hF rfl rfl rfl rfl rfl (by decide) _ (y_ldC (u := .int .u8 ((bAt r 0).toNat : Int)) rfl hA.q rfl hc 0 (by rw [dc_length]; exact hr0) rfl (dc_at hr0) nr5_rt) (fun a hF => ?_)
      refine vc_yg hF rfl rfl rfl rfl rfl (by decide) _ (y_cmp rfl rfl rfl rfl (gtr_t (by omega))) (fun a hF => ?_)
      refine vc_y hF rfl rfl (by decide) _ (y_pick rfl rfl rfl) (fun a hF => ?_)
      refine vc_nil ?_
      refine hK3 _ _ ?_; clear  hK3 K3
      refine vc_true hF rfl ?_
      apply wp_seq_k; intro K4 hK4
      refine wp_region_lit ?_
      refine vc_y hF rfl rfl (by decide) _ (y_assign rfl rfl) (fun a hF => ?_)
      refine vc_y hF rfl rfl (by decide) _ (y_assign rfl rfl) (fun a hF => ?_)
      refine vc_y hF rfl rfl (by decide) _ (y_assign rfl rfl) (fun a hF => ?_)
      refine vc_nil ?_
      refine hK4 _ _ ?_; clear  hK4 K4
      apply wp_ret
      simp only [Exit.then]
      refine vc_ret3 hF Tryz.results111 rfl rfl rfl ?_
      exact ⟨rfl, rfl⟩
    · obtain ⟨h1, h2, h3⟩ := rt_ok (show flagR r = .ok (num (r.take 1) == 1) 1 from if_neg (by omega)) false
      rw [h1, h2, h3]
      apply wp_seq_k; intro K5 hK5
      refine wp_region_lit ?_
      refine vc_y hF rfl rfl (by decide) _ (y_assign rfl rfl) (fun a hF => ?_)
      refine vc_y hF rfl rfl (by decide) _ (y_assign rfl rfl) (fun a hF => ?_)
      refine vc_y hF rfl rfl (by decide) _ (y_assign rfl rfl) (fun a hF => ?_)
      refine vc_nil ?_
      refine hK5 _ _ ?_; clear  hK5 K5
      apply wp_seq_k; intro K6 hK6
      apply wp_seq_k; intro K7 hK7
      refine wp_region_lit ?_
      refine vc_y hF rfl rfl (by decide) _ (y_move rfl rfl) (fun a hF => ?_)
      refine vc_y hF rfl rfl (by decide) _ (y_lenSl rfl Tryz.underlying27 rfl rfl) (fun a hF => ?_)
      refine vc_y hF rfl rfl (by decide) _ (y_cmp rfl rfl rfl rfl (eql_f (by omega))) (fun a hF => ?_)
      refine vc_y hF rfl rfl (by decide) _ (y_move rfl rfl) (fun a hF => ?_)
      refine vc_yg hF rfl rfl rfl rfl rfl (by decide) _ (y_move rfl rfl) (fun a hF => ?_)
      refine vc_yg hF rfl rfl rfl rfl rfl (by decide) _ (y_ixSl rfl Tryz.underlying27 sz5_rt rfl rfl 0 rfl hr0 (ad2 _ _ _)) (fun a hF => ?_)
      refine vc_yg hF rfl rfl rfl rfl rfl (by decide) _ (y_ldC (u := .int .u8 ((bAt r 0).toNat : Int)) rfl hA.q rfl hc 0 (by rw [dc_length]; exact hr0) rfl (dc_at hr0) nr5_rt) (fun a hF => ?_)
      refine vc_yg hF rfl rfl rfl rfl rfl (by decide) _ (y_cmp rfl rfl rfl rfl (gtr_f (by omega))) (fun a hF => ?_)
      refine vc_y hF rfl rfl (by decide) _ (y_pick rfl rfl rfl) (fun a hF => ?_)
      refine vc_nil ?_
      refine hK7 _ _ ?_; clear  hK7 K7
      refine vc_false hF rfl ?_
      apply wp_skip
      refine hK6 _ _ ?_; clear  hK6 K6
      apply wp_seq_k; intro K8 hK8
      refine wp_region_lit ?_
      refine vc_y hF rfl rfl (by decide) _ (y_move rfl rfl) (fun a hF => ?_)
      refine vc_y hF rfl rfl (by decide) _ (y_ixSl rfl Tryz.underlying27 sz5_rt rfl rfl 0 rfl hr0 (ad2 _ _ _)) (fun a hF => ?_)
      refine vc_y hF rfl rfl (by decide) _ (y_ldC (u := .int .u8 ((bAt r 0).toNat : Int)) rfl hA.q rfl hc 0 (by rw [dc_length]; exact hr0) rfl (dc_at hr0) nr5_rt) (fun a hF => ?_)
      refine vc_y hF rfl rfl (by decide) _ (y_cmp (c := (num (r.take 1) == 1)) rfl rfl rfl rfl (by rw [hr1]; exact rt_eq1 _)) (fun a hF => ?_)
      refine vc_y hF rfl rfl (by decide) _ (y_assign rfl rfl) (fun a hF => ?_)
      refine vc_y hF rfl rfl (by decide) _ (y_assign rfl rfl) (fun a hF => ?_)
      refine vc_y hF rfl rfl (by decide) _ (y_assign rfl rfl) (fun a hF => ?_)
      refine vc_nil ?_
      refine hK8 _ _ ?_; clear  hK8 K8
      apply wp_ret
      refine vc_ret3 hF Tryz.results111 rfl rfl rfl ?_
      exact ⟨rfl, rfl⟩
  · have hl0 : r.length = 0 := by omega
    obtain ⟨h1, h2, h3⟩ := rt_no (show flagR r = .no 8 from if_pos (.inl (by omega))) false
    rw [h1, h2, h3]
    apply wp_seq_k; intro K9 hK9
    refine wp_region_lit ?_
    refine vc_y hF rfl rfl (by decide) _ (y_assign rfl rfl) (fun a hF => ?_)
    refine vc_y hF rfl rfl (by decide) _ (y_assign rfl rfl) (fun a hF => ?_)
    refine vc_y hF rfl rfl (by decide) _ (y_assign rfl rfl) (fun a hF => ?_)
    refine vc_nil ?_
    refine hK9 _ _ ?_; clear  hK9 K9
    apply wp_seq_k; intro K10 hK10
    apply wp_seq_k; intro K11 hK11
    refine wp_region_lit ?_
    refine vc_y hF rfl rfl (by decide) _ (y_move rfl rfl) (fun a hF => ?_)
    refine vc_y hF rfl rfl (by decide) _ (y_lenSl rfl Tryz.underlying27 rfl rfl) (fun a hF => ?_)
    refine vc_y hF rfl rfl (by decide) _ (y_cmp rfl rfl rfl rfl (eql_t (by omega))) (fun a hF => ?_)
    refine vc_y hF rfl rfl (by decide) _ (y_move rfl rfl) (fun a hF => ?_)
    refine vc_skip hF rfl rfl rfl rfl rfl rfl (by decide) (fun a hF => ?_)
    refine vc_skip hF rfl rfl rfl rfl rfl rfl (by decide) (fun a hF => ?_)
    refine vc_skip hF rfl rfl rfl rfl rfl rfl (by decide) (fun a hF => ?_)
    refine vc_skip hF rfl rfl rfl rfl rfl rfl (by decide) (fun a hF => ?_)
    refine vc_y hF rfl rfl (by decide) _ (y_pick rfl rfl rfl) (fun a hF => ?_)
    refine vc_nil ?_
    refine hK11 _ _ ?_; clear  hK11 K11
    refine vc_true hF rfl ?_
    apply wp_seq_k; intro K12 hK12
    refine wp_region_lit ?_
    refine vc_y hF rfl rfl (by decide) _ (y_assign rfl rfl) (fun a hF => ?_)
    refine vc_y hF rfl rfl (by decide) _ (y_assign rfl rfl) (fun a hF => ?_)
    refine vc_y hF rfl rfl (by decide) _ (y_assign rfl rfl) (fun a hF => ?_)
    refine vc_nil ?_
    refine hK12 _ _ ?_; clear  hK12 K12
    apply wp_ret
    simp only [Exit.then]
    refine vc_ret3 hF Tryz.results111 rfl rfl rfl ?_
    exact ⟨rfl, rfl⟩

set_option maxRecDepth 100000 in
set_option maxHeartbeats 4000000 in
theorem rt_raw (w0 w : World) (R : List Seg) (A : Option Addr) (r : List UInt8) (c : Nat) (n : Int) (hc : r.length ≤ c) (hR : Rd w0 R A r) (hA : Hp w0 R w) (hl : r.length < 140737488354000) (hn64 : -9223372036854775808 ≤ n ∧ n ≤ 9223372036854775807) : Calls Tryz.prog 193 #[.slice A r.length c, .int .i64 n] w fun e w' => ∃ v' Z, e = .returned (.tuple #[v', .int .i64 (((rawR r n).pl 0 0 : Nat) : Int), .int .i64 (((rawR r n).why 0 : Nat) : Int)]) ∧ Buf 5 1 Z v' ((rawR r n).val [] 0).length (dc ((rawR r n).val [] 0)) ∧ Hp w0 (Z :: R) w' := by
  refine vc_enter Tryz.func193 rfl Tryz.ntmps193 (Nat.le_of_ble_eq_true rfl) (fun a hF => ?_)
  by_cases hn0 : n < 0
  · obtain ⟨h1, h2, h3⟩ := rt_no (show rawR r n = .no 8 from if_pos (.inl hn0)) []
    rw [h1, h2, h3]
    apply wp_seq_k; intro K1 hK1
    refine wp_region_lit ?_
    refine vc_y hF rfl rfl (by decide) _ (y_assign rfl rfl) (fun a hF => ?_)
    refine vc_y hF rfl rfl (by decide) _ (y_assign rfl rfl) (fun a hF => ?_)
    refine vc_y hF rfl rfl (by decide) _ (y_assign rfl rfl) (fun a hF => ?_)
    refine vc_nil ?_
    refine hK1 _ _ ?_; clear  hK1 K1
    apply wp_seq_k; intro K2 hK2
    apply wp_seq_k; intro K3 hK3
    refine wp_region_lit ?_
    refine vc_y hF rfl rfl (by decide) _ (y_move rfl rfl) (fun a hF => ?_)
    refine vc_y hF rfl rfl (by decide) _ (y_cmp rfl rfl rfl rfl (lss_t (by omega))) (fun a hF => ?_)
    refine vc_y hF rfl rfl (by decide) _ (y_move rfl rfl) (fun a hF => ?_)
    refine vc_skip hF rfl rfl rfl rfl rfl rfl (by decide) (fun a hF => ?_)
    refine vc_skip hF rfl rfl rfl rfl rfl rfl (by decide) (fun a hF => ?_)
    refine vc_skip hF rfl rfl rfl rfl rfl rfl (by decide) (fun a hF => ?_)
    refine vc_skip hF rfl rfl rfl rfl rfl rfl (by decide) (fun a hF => ?_)
    refine vc_y hF rfl rfl (by decide) _ (y_pick rfl rfl rfl) (fun a hF => ?_)
    refine vc_nil ?_
    refine hK3 _ _ ?_; clear  hK3 K3
    refine vc_true hF rfl ?_
    apply wp_seq_k; intro K4 hK4
    refine wp_region_lit ?_
    refine vc_y hF rfl rfl (by decide) _ (y_assign rfl rfl) (fun a hF => ?_)
    refine vc_y hF rfl rfl (by decide) _ (y_assign rfl rfl) (fun a hF => ?_)
    refine vc_y hF rfl rfl (by decide) _ (y_assign rfl rfl) (fun a hF => ?_)
    refine vc_nil ?_
    refine hK4 _ _ ?_; clear  hK4 K4
    apply wp_ret
    simp only [Exit.then]
    refine vc_ret3 hF Tryz.results193 rfl rfl rfl ?_
    exact ⟨_, [], rfl, Buf.nil _ _, Hp.nil hA⟩
  · by_cases hn1 : (r.length : Int) < n
    · obtain ⟨h1, h2, h3⟩ := rt_no (show rawR r n = .no 8 from if_pos (.inr hn1)) []
      rw [h1, h2, h3]
      apply wp_seq_k; intro K5 hK5
      refine wp_region_lit ?_
      refine vc_y hF rfl rfl (by decide) _ (y_assign rfl rfl) (fun a hF => ?_)
      refine vc_y hF rfl rfl (by decide) _ (y_assign rfl rfl) (fun a hF => ?_)
      refine vc_y hF rfl rfl (by decide) _ (y_assign rfl rfl) (fun a hF => ?_)
      refine vc_nil ?_
      refine hK5 _ _ ?_; clear  hK5 K5
      apply wp_seq_k; intro K6 hK6
      apply wp_seq_k; intro K7 hK7
      refine wp_region_lit ?_
      refine vc_y hF rfl rfl (by decide) _ (y_move rfl rfl) (fun a hF => ?_)
      refine vc_y hF rfl rfl (by decide) _ (y_cmp rfl rfl rfl rfl (lss_f (by omega))) (fun a hF => ?_)
      refine vc_y hF rfl rfl (by decide) _ (y_move rfl rfl) (fun a hF => ?_)
      refine vc_yg hF rfl rfl rfl rfl rfl (by decide) _ (y_move rfl rfl) (fun a hF => ?_)
      refine vc_yg hF rfl rfl rfl rfl rfl (by decide) _ (y_move rfl rfl) (fun a hF => ?_)
      refine vc_yg hF rfl rfl rfl rfl rfl (by decide) _ (y_lenSl rfl Tryz.underlying27 rfl rfl) (fun a hF => ?_)
      refine vc_yg hF rfl rfl rfl rfl rfl (by decide) _ (y_cmp rfl rfl rfl rfl (gtr_t (by omega))) (fun a hF => ?_)
      refine vc_y hF rfl rfl (by decide) _ (y_pick rfl rfl rfl) (fun a hF => ?_)
      refine vc_nil ?_
      refine hK7 _ _ ?_; clear  hK7 K7
      refine vc_true hF rfl ?_
      apply wp_seq_k; intro K8 hK8
      refine wp_region_lit ?_
      refine vc_y hF rfl rfl (by decide) _ (y_assign rfl rfl) (fun a hF => ?_)
      refine vc_y hF rfl rfl (by decide) _ (y_assign rfl rfl) (fun a hF => ?_)
      refine vc_y hF rfl rfl (by decide) _ (y_assign rfl rfl) (fun a hF => ?_)
      refine vc_nil ?_
      refine hK8 _ _ ?_; clear  hK8 K8
      apply wp_ret
      simp only [Exit.then]
      refine vc_ret3 hF Tryz.results193 rfl rfl rfl ?_
      exact ⟨_, [], rfl, Buf.nil _ _, Hp.nil hA⟩
    · obtain ⟨h1, h2, h3⟩ := rt_ok (show rawR r n = .ok (r.take n.toNat) n.toNat from if_neg (by omega)) []
      rw [h1, h2, h3]
      obtain ⟨m, rfl⟩ := Int.eq_ofNat_of_zero_le (show 0 ≤ n by omega)
      rw [Int.toNat_natCast]
      have hml : (r.take m).length = m := by rw [List.length_take]; omega
      have hRm := hR.take m
      apply wp_seq_k; intro K9 hK9
      refine wp_region_lit ?_
      refine vc_y hF rfl rfl (by decide) _ (y_assign rfl rfl) (fun a hF => ?_)
      refine vc_y hF rfl rfl (by decide) _ (y_assign rfl rfl) (fun a hF => ?_)
      refine vc_y hF rfl rfl (by decide) _ (y_assign rfl rfl) (fun a hF => ?_)
      refine vc_nil ?_
      refine hK9 _ _ ?_; clear  hK9 K9
      apply wp_seq_k; intro K10 hK10
      apply wp_seq_k; intro K11 hK11
      refine wp_region_lit ?_
      refine vc_y hF rfl rfl (by decide) _ (y_move rfl rfl) (fun a hF => ?_)
      refine vc_y hF rfl rfl (by decide) _ (y_cmp rfl rfl rfl rfl (lss_f (by omega))) (fun a hF => ?_)
      refine vc_y hF rfl rfl (by decide) _ (y_move rfl rfl) (fun a hF => ?_)
      refine vc_yg hF rfl rfl rfl rfl rfl (by decide) _ (y_move rfl rfl) (fun a hF => ?_)
      refine vc_yg hF rfl rfl rfl rfl rfl (by decide) _ (y_move rfl rfl) (fun a hF => ?_)
      refine vc_yg hF rfl rfl rfl rfl rfl (by decide) _ (y_lenSl rfl Tryz.underlying27 rfl rfl) (fun a hF => ?_)
      refine vc_yg hF rfl rfl rfl rfl rfl (by decide) _ (y_cmp rfl rfl rfl rfl (gtr_f (by omega))) (fun a hF => ?_)
      refine vc_y hF rfl rfl (by decide) _ (y_pick rfl rfl rfl) (fun a hF => ?_)
      refine vc_nil ?_
      refine hK11 _ _ ?_; clear  hK11 K11
      refine vc_false hF rfl ?_
      have hA1 : Hp w0 (([] : Seg) :: R) w := Hp.nil hA
      have hO : Buf 5 1 [] (.slice none 0 0) 0 [] := Buf.nil _ _
      apply wp_skip
      refine hK10 _ _ ?_; clear  hK10 K10
      apply wp_seq_k; intro K12 hK12
      refine wp_region_lit ?_
      refine vc_y hF rfl rfl (by decide) _ (y_move rfl rfl) (fun a hF => ?_)
      refine vc_y hF rfl rfl (by decide) _ (y_move rfl rfl) (fun a hF => ?_)
      refine vc_y hF rfl rfl (by decide) _ (y_slice rfl Tryz.underlying27 kb_sz_byte rfl (.none 0) (.some rfl rfl) (Nat.zero_le _) (by omega) slice_to) (fun a hF => ?_)
      refine vc_op rfl (fun K hK => hs_append hF rfl (by decide) rfl hA1 0 rfl hO Tryz.underlying27 ow_elem5 rfl rfl ((by have h := Rc.src (c := c) (hRm.mono (subC (sub0))) hA1.q Tryz.underlying27; rw [hml] at h; exact h)) (by omega) (by decide) (fun v2 X2 w2 a hO2 hF hA3 => hK _ _ ?_))
      clear hK K
      replace hA3 : Hp w0 (X2 :: R) w2 := hA3
      refine vc_y hF rfl rfl (by decide) _ (y_move rfl rfl) (fun a hF => ?_)
      refine vc_y hF rfl rfl (by decide) _ (y_assign rfl rfl) (fun a hF => ?_)
      refine vc_y hF rfl rfl (by decide) _ (y_assign rfl rfl) (fun a hF => ?_)
      refine vc_y hF rfl rfl (by decide) _ (y_assign rfl rfl) (fun a hF => ?_)
      refine vc_nil ?_
      refine hK12 _ _ ?_; clear  hK12 K12
      apply wp_ret
      refine vc_ret3 hF Tryz.results193 rfl rfl rfl ?_
      rw [Nat.zero_add, List.nil_append] at hO2
      exact ⟨_, _, rfl, by rw [hml]; exact hO2, hA3⟩
theorem rt_numberN (w0 w : World) (R : List Seg) (A : Option Addr) (r : List UInt8) (c kk n : Nat) (z : Int) (hn : n = r.length) (hz : z = kk) (hK : kk ≤ 8) (hR : Rd w0 R A r) (hA : Hp w0 R w) (hl : r.length < 140737488354000) : Calls Tryz.prog 110 #[.slice A n c, .int .i64 z] w fun e w' => e = .returned (.tuple #[.int .u64 (((numR kk r).val 0 0 : Nat) : Int), .int .i64 (((numR kk r).pl 0 0 : Nat) : Int), .int .i64 (((numR kk r).why 0 : Nat) : Int)]) ∧ w = w' := by
  subst hn; exact rt_number w0 w R A r c kk z hz hK hR hA hl
theorem rt_rawN (w0 w : World) (R : List Seg) (A : Option Addr) (r : List UInt8) (c k : Nat) (n : Int) (hk : k = r.length) (hc : r.length ≤ c) (hR : Rd w0 R A r) (hA : Hp w0 R w) (hl : r.length < 140737488354000) (hn64 : -9223372036854775808 ≤ n ∧ n ≤ 9223372036854775807) : Calls Tryz.prog 193 #[.slice A k c, .int .i64 n] w fun e w' => ∃ v' Z, e = .returned (.tuple #[v', .int .i64 (((rawR r n).pl 0 0 : Nat) : Int), .int .i64 (((rawR r n).why 0 : Nat) : Int)]) ∧ Buf 5 1 Z v' ((rawR r n).val [] 0).length (dc ((rawR r n).val [] 0)) ∧ Hp w0 (Z :: R) w' := by
  subst hk; exact rt_raw w0 w R A r c n hc hR hA hl hn64

theorem rt_num4 (r : List UInt8) {kk : Nat} (hK : kk ≤ 4) : num (r.take kk) < 4294967296 := by
  have h1 := num_lt (r.take kk)
  have h2 : (r.take kk).length ≤ 4 := by rw [List.length_take]; omega
  exact Nat.lt_of_lt_of_le h1 (Nat.le_trans (Nat.pow_le_pow_right (by decide) h2) (by decide))

set_option maxRecDepth 100000 in
set_option maxHeartbeats 4000000 in
theorem rt_sized (w0 w : World) (R : List Seg) (A : Option Addr) (r : List UInt8) (c kk k : Nat) (z m : Int) (hk0 : k = r.length) (hz : z = kk) (hK : kk ≤ 4) (hm : 0 ≤ m ∧ m ≤ 2147483647) (hc : r.length ≤ c) (hR : Rd w0 R A r) (hA : Hp w0 R w) (hl : r.length < 140737488354000) : Calls Tryz.prog 158 #[.slice A k c, .int .i64 z, .int .i64 m] w fun e w' => ∃ v' Z k', e = .returned (.tuple #[v', .int .i64 ((k' : Nat) : Int), .int .i64 (((sizedR kk 6 r m).why 0 : Nat) : Int)]) ∧ ((sizedR kk 6 r m).why 0 = 0 → k' = (sizedR kk 6 r m).pl 0 0) ∧ Buf 5 1 Z v' ((sizedR kk 6 r m).val [] 0).length (dc ((sizedR kk 6 r m).val [] 0)) ∧ Hp w0 (Z :: R) w' := by
  subst hk0
  subst hz
  refine vc_enter Tryz.func158 rfl Tryz.ntmps158 (Nat.le_of_ble_eq_true rfl) (fun a hF => ?_)
  by_cases hk : r.length < kk
  · obtain ⟨n1, n2, n3⟩ := rt_no (show numR kk r = .no 8 from if_pos hk) 0
    apply wp_seq_k; intro K1 hK1
    refine wp_region_lit ?_
    refine vc_y hF rfl rfl (by decide) _ (y_assign rfl rfl) (fun a hF => ?_)
    refine vc_y hF rfl rfl (by decide) _ (y_assign rfl rfl) (fun a hF => ?_)
    refine vc_y hF rfl rfl (by decide) _ (y_assign rfl rfl) (fun a hF => ?_)
    refine vc_nil ?_
    refine hK1 _ _ ?_; clear  hK1 K1
    apply wp_seq_k; intro K2 hK2
    refine wp_region_lit ?_
    refine vc_y hF rfl rfl (by decide) _ (y_move rfl rfl) (fun a hF => ?_)
    refine vc_y hF rfl rfl (by decide) _ (y_move rfl rfl) (fun a hF => ?_)
    refine vc_op rfl (fun K hK => ws_call hF rfl (by decide) cl110_rt rfl rfl ?_)
    with_reducible refine (rt_numberN w0 _ _ A r c kk _ _ rfl rfl (by omega) hR hA hl ).mono ?_
    rintro e' w3 ⟨rfl, rfl⟩
    refine ⟨_, rfl, fun a hF => hK _ _ ?_⟩
    clear hK K
    rw [n1, n2, n3] at hF
    refine vc_y hF rfl rfl (by decide) _ (y_move rfl rfl) (fun a hF => ?_)
    refine vc_y hF rfl rfl (by decide) _ (y_extract (v := .int .u64 ((0 : Nat) : Int)) rfl rfl rfl) (fun a hF => ?_)
    refine vc_y hF rfl rfl (by decide) _ (y_extract (v := .int .i64 ((0 : Nat) : Int)) rfl rfl rfl) (fun a hF => ?_)
    refine vc_y hF rfl rfl (by decide) _ (y_extract (v := .int .i64 ((8 : Nat) : Int)) rfl rfl rfl) (fun a hF => ?_)
    refine vc_y hF rfl rfl (by decide) _ (y_assign rfl rfl) (fun a hF => ?_)
    refine vc_y hF rfl rfl (by decide) _ (y_assign rfl rfl) (fun a hF => ?_)
    refine vc_y hF rfl rfl (by decide) _ (y_assign rfl rfl) (fun a hF => ?_)
    refine vc_nil ?_
    refine hK2 _ _ ?_; clear  hK2 K2
    apply wp_seq_k; intro K3 hK3
    apply wp_seq_k; intro K4 hK4
    refine wp_region_lit ?_
    refine vc_y hF rfl rfl (by decide) _ (y_move rfl rfl) (fun a hF => ?_)
    refine vc_y hF rfl rfl (by decide) _ (y_cmp rfl rfl rfl rfl rfl) (fun a hF => ?_)
    refine vc_nil ?_
    refine hK4 _ _ ?_; clear  hK4 K4
    refine vc_trueB hF rfl (neq_t (by decide)) ?_
    apply wp_seq_k; intro K5 hK5
    refine wp_region_lit ?_
    refine vc_y hF rfl rfl (by decide) _ (y_move rfl rfl) (fun a hF => ?_)
    refine vc_y hF rfl rfl (by decide) _ (y_assign rfl rfl) (fun a hF => ?_)
    refine vc_y hF rfl rfl (by decide) _ (y_assign rfl rfl) (fun a hF => ?_)
    refine vc_y hF rfl rfl (by decide) _ (y_assign rfl rfl) (fun a hF => ?_)
    refine vc_nil ?_
    refine hK5 _ _ ?_; clear  hK5 K5
    apply wp_ret
    simp only [Exit.then]
    refine vc_ret3 hF Tryz.results158 rfl rfl rfl ?_
    obtain ⟨h1, h2, h3⟩ := rt_no (show sizedR kk 6 r m = .no 8 from if_pos hk) []
    rw [h1, h3]
    exact ⟨_, [], 0, rfl, (fun h => absurd h (by decide)), Buf.nil _ _, Hp.nil hA⟩
  · obtain ⟨n1, n2, n3⟩ := rt_ok (show numR kk r = .ok (num (r.take kk)) kk from if_neg hk) 0
    have hnb : num (r.take kk) < 4294967296 := rt_num4 r hK
    obtain ⟨u, hu⟩ : ∃ u, u = num (r.take kk) := ⟨_, rfl⟩
    rw [← hu] at n1 hnb
    apply wp_seq_k; intro K6 hK6
    refine wp_region_lit ?_
    refine vc_y hF rfl rfl (by decide) _ (y_assign rfl rfl) (fun a hF => ?_)
    refine vc_y hF rfl rfl (by decide) _ (y_assign rfl rfl) (fun a hF => ?_)
    refine vc_y hF rfl rfl (by decide) _ (y_assign rfl rfl) (fun a hF => ?_)
    refine vc_nil ?_
    refine hK6 _ _ ?_; clear  hK6 K6
    apply wp_seq_k; intro K7 hK7
    refine wp_region_lit ?_
    refine vc_y hF rfl rfl (by decide) _ (y_move rfl rfl) (fun a hF => ?_)
    refine vc_y hF rfl rfl (by decide) _ (y_move rfl rfl) (fun a hF => ?_)
    refine vc_op rfl (fun K hK => ws_call hF rfl (by decide) cl110_rt rfl rfl ?_)
    with_reducible refine (rt_numberN w0 _ _ A r c kk _ _ rfl rfl (by omega) hR hA hl ).mono ?_
    rintro e' w6 ⟨rfl, rfl⟩
    refine ⟨_, rfl, fun a hF => hK _ _ ?_⟩
    clear hK K
    rw [n1, n2, n3] at hF
    refine vc_y hF rfl rfl (by decide) _ (y_move rfl rfl) (fun a hF => ?_)
    refine vc_y hF rfl rfl (by decide) _ (y_extract (v := .int .u64 ((u : Nat) : Int)) rfl rfl rfl) (fun a hF => ?_)
    refine vc_y hF rfl rfl (by decide) _ (y_extract (v := .int .i64 ((kk : Nat) : Int)) rfl rfl rfl) (fun a hF => ?_)
    refine vc_y hF rfl rfl (by decide) _ (y_extract (v := .int .i64 ((0 : Nat) : Int)) rfl rfl rfl) (fun a hF => ?_)
    refine vc_y hF rfl rfl (by decide) _ (y_assign rfl rfl) (fun a hF => ?_)
    refine vc_y hF rfl rfl (by decide) _ (y_assign rfl rfl) (fun a hF => ?_)
    refine vc_y hF rfl rfl (by decide) _ (y_assign rfl rfl) (fun a hF => ?_)
    refine vc_nil ?_
    refine hK7 _ _ ?_; clear  hK7 K7
    apply wp_seq_k; intro K8 hK8
    apply wp_seq_k; intro K9 hK9
    refine wp_region_lit ?_
    refine vc_y hF rfl rfl (by decide) _ (y_move rfl rfl) (fun a hF => ?_)
    refine vc_y hF rfl rfl (by decide) _ (y_cmp rfl rfl rfl rfl rfl) (fun a hF => ?_)
    refine vc_nil ?_
    refine hK9 _ _ ?_; clear  hK9 K9
    refine vc_falseB hF rfl (neq_f rfl) ?_
    apply wp_skip
    refine hK8 _ _ ?_; clear  hK8 K8
    apply wp_seq_k; intro K10 hK10
    apply wp_seq_k; intro K11 hK11
    refine wp_region_lit ?_
    refine vc_y hF rfl rfl (by decide) _ (y_move rfl rfl) (fun a hF => ?_)
    refine vc_y hF rfl rfl (by decide) _ (y_move rfl rfl) (fun a hF => ?_)
    refine vc_y hF rfl rfl (by decide) _ (y_conv rfl Tryz.underlying3 Tryz.underlying135 rfl (show IntKind.u64.wrap (m) = m by rw [IntKind.wrap_u64]; omega)) (fun a hF => ?_)
    refine vc_y hF rfl rfl (by decide) _ (y_cmp rfl rfl rfl rfl rfl) (fun a hF => ?_)
    refine vc_nil ?_
    refine hK11 _ _ ?_; clear  hK11 K11
    by_cases hm1 : m < (u : Int)
    · refine vc_trueB hF rfl (gtr_t (by omega)) ?_
      apply wp_seq_k; intro K12 hK12
      refine wp_region_lit ?_
      refine vc_y hF rfl rfl (by decide) _ (y_assign rfl rfl) (fun a hF => ?_)
      refine vc_y hF rfl rfl (by decide) _ (y_assign rfl rfl) (fun a hF => ?_)
      refine vc_y hF rfl rfl (by decide) _ (y_assign rfl rfl) (fun a hF => ?_)
      refine vc_nil ?_
      refine hK12 _ _ ?_; clear  hK12 K12
      apply wp_ret
      simp only [Exit.then]
      refine vc_ret3 hF Tryz.results158 rfl rfl rfl ?_
      obtain ⟨h1, h2, h3⟩ := rt_no (show sizedR kk 6 r m = .no 6 by unfold sizedR; rw [if_neg hk, ← hu, if_pos hm1]) []
      rw [h1, h3]
      exact ⟨_, [], 0, rfl, (fun h => absurd h (by decide)), Buf.nil _ _, Hp.nil hA⟩
    · refine vc_falseB hF rfl (gtr_f (by omega)) ?_
      have hdl : (r.drop kk).length = r.length - kk := List.length_drop
      by_cases hf : r.length - kk < u
      · obtain ⟨r1, r2, r3⟩ := rt_no (show rawR (r.drop kk) (u : Int) = .no 8 from if_pos (.inr (by omega))) []
        apply wp_skip
        refine hK10 _ _ ?_; clear  hK10 K10
        apply wp_seq_k; intro K13 hK13
        refine wp_region_lit ?_
        refine vc_y hF rfl rfl (by decide) _ (y_move rfl rfl) (fun a hF => ?_)
        refine vc_y hF rfl rfl (by decide) _ (y_move rfl rfl) (fun a hF => ?_)
        refine vc_y hF rfl rfl (by decide) _ (y_slice rfl Tryz.underlying27 kb_sz_byte rfl (.some rfl rfl) (.none _) (by omega) (by omega) rfl) (fun a hF => ?_)
        refine vc_y hF rfl rfl (by decide) _ (y_move rfl rfl) (fun a hF => ?_)
        refine vc_y hF rfl rfl (by decide) _ (y_conv rfl Tryz.underlying135 Tryz.underlying3 rfl (IntWalk.i64_in _ (by omega))) (fun a hF => ?_)
        refine vc_op rfl (fun K hK => ws_call hF rfl (by decide) cl193_rt rfl rfl ?_)
        with_reducible refine (rt_rawN w0 _ R _ (r.drop kk) _ _ _ hdl.symm (by omega) (hR.drop kk hc) hA (by omega) (by omega) ).mono ?_
        rintro e' w7 ⟨v', Z, rfl, hZ, hA8⟩
        refine ⟨_, rfl, fun a hF => hK _ _ ?_⟩
        clear hK K
        replace hA8 : Hp w0 (Z :: R) w7 := hA8
        rw [r2, r3] at hF
        rw [r1] at hZ
        refine vc_y hF rfl rfl (by decide) _ (y_move rfl rfl) (fun a hF => ?_)
        refine vc_y hF rfl rfl (by decide) _ (y_extract (v := v') rfl rfl rfl) (fun a hF => ?_)
        refine vc_y hF rfl rfl (by decide) _ (y_extract (v := .int .i64 ((0 : Nat) : Int)) rfl rfl rfl) (fun a hF => ?_)
        refine vc_y hF rfl rfl (by decide) _ (y_extract (v := .int .i64 ((8 : Nat) : Int)) rfl rfl rfl) (fun a hF => ?_)
        refine vc_y hF rfl rfl (by decide) _ (y_assign rfl rfl) (fun a hF => ?_)
        refine vc_y hF rfl rfl (by decide) _ (y_assign rfl rfl) (fun a hF => ?_)
        refine vc_y hF rfl rfl (by decide) _ (y_assign rfl rfl) (fun a hF => ?_)
        refine vc_nil ?_
        refine hK13 _ _ ?_; clear  hK13 K13
        apply wp_seq_k; intro K14 hK14
        refine wp_region_lit ?_
        refine vc_y hF rfl rfl (by decide) _ (y_move rfl rfl) (fun a hF => ?_)
        refine vc_y hF rfl rfl (by decide) _ (y_move rfl rfl) (fun a hF => ?_)
        refine vc_y hF rfl rfl (by decide) _ (y_move rfl rfl) (fun a hF => ?_)
        refine vc_y hF rfl rfl (by decide) _ (y_conv rfl Tryz.underlying135 Tryz.underlying3 rfl (IntWalk.i64_in _ (by omega))) (fun a hF => ?_)
        refine vc_y hF rfl rfl (by decide) _ (y_add rfl rfl rfl (IntWalk.i64_in _ (by omega))) (fun a hF => ?_)
        refine vc_y hF rfl rfl (by decide) _ (y_move rfl rfl) (fun a hF => ?_)
        refine vc_y hF rfl rfl (by decide) _ (y_assign rfl rfl) (fun a hF => ?_)
        refine vc_y hF rfl rfl (by decide) _ (y_assign rfl rfl) (fun a hF => ?_)
        refine vc_y hF rfl rfl (by decide) _ (y_assign rfl rfl) (fun a hF => ?_)
        refine vc_nil ?_
        refine hK14 _ _ ?_; clear  hK14 K14
        apply wp_ret
        refine vc_ret3 hF Tryz.results158 rfl rfl rfl ?_
        obtain ⟨h1, h2, h3⟩ := rt_no (show sizedR kk 6 r m = .no 8 by unfold sizedR; rw [if_neg hk, ← hu, if_neg hm1, if_pos hf]) []
        rw [h1, h3]
        exact ⟨v', Z, kk + u, rfl, (fun h => absurd h (by decide)), hZ, hA8⟩
      · obtain ⟨r1, r2, r3⟩ := rt_ok (show rawR (r.drop kk) (u : Int) = .ok ((r.drop kk).take (u : Int).toNat) (u : Int).toNat from if_neg (by omega)) []
        rw [Int.toNat_natCast] at r1 r2
        apply wp_skip
        refine hK10 _ _ ?_; clear  hK10 K10
        apply wp_seq_k; intro K15 hK15
        refine wp_region_lit ?_
        refine vc_y hF rfl rfl (by decide) _ (y_move rfl rfl) (fun a hF => ?_)
        refine vc_y hF rfl rfl (by decide) _ (y_move rfl rfl) (fun a hF => ?_)
        refine vc_y hF rfl rfl (by decide) _ (y_slice rfl Tryz.underlying27 kb_sz_byte rfl (.some rfl rfl) (.none _) (by omega) (by omega) rfl) (fun a hF => ?_)
        refine vc_y hF rfl rfl (by decide) _ (y_move rfl rfl) (fun a hF => ?_)
        refine vc_y hF rfl rfl (by decide) _ (y_conv rfl Tryz.underlying135 Tryz.underlying3 rfl (IntWalk.i64_in _ (by omega))) (fun a hF => ?_)
        refine vc_op rfl (fun K hK => ws_call hF rfl (by decide) cl193_rt rfl rfl ?_)
        with_reducible refine (rt_rawN w0 _ R _ (r.drop kk) _ _ _ hdl.symm (by omega) (hR.drop kk hc) hA (by omega) (by omega) ).mono ?_
        rintro e' w9 ⟨v', Z, rfl, hZ, hA10⟩
        refine ⟨_, rfl, fun a hF => hK _ _ ?_⟩
        clear hK K
        replace hA10 : Hp w0 (Z :: R) w9 := hA10
        rw [r2, r3] at hF
        rw [r1] at hZ
        refine vc_y hF rfl rfl (by decide) _ (y_move rfl rfl) (fun a hF => ?_)
        refine vc_y hF rfl rfl (by decide) _ (y_extract (v := v') rfl rfl rfl) (fun a hF => ?_)
        refine vc_y hF rfl rfl (by decide) _ (y_extract (v := .int .i64 ((u : Nat) : Int)) rfl rfl rfl) (fun a hF => ?_)
        refine vc_y hF rfl rfl (by decide) _ (y_extract (v := .int .i64 ((0 : Nat) : Int)) rfl rfl rfl) (fun a hF => ?_)
        refine vc_y hF rfl rfl (by decide) _ (y_assign rfl rfl) (fun a hF => ?_)
        refine vc_y hF rfl rfl (by decide) _ (y_assign rfl rfl) (fun a hF => ?_)
        refine vc_y hF rfl rfl (by decide) _ (y_assign rfl rfl) (fun a hF => ?_)
        refine vc_nil ?_
        refine hK15 _ _ ?_; clear  hK15 K15
        apply wp_seq_k; intro K16 hK16
        refine wp_region_lit ?_
        refine vc_y hF rfl rfl (by decide) _ (y_move rfl rfl) (fun a hF => ?_)
        refine vc_y hF rfl rfl (by decide) _ (y_move rfl rfl) (fun a hF => ?_)
        refine vc_y hF rfl rfl (by decide) _ (y_move rfl rfl) (fun a hF => ?_)
        refine vc_y hF rfl rfl (by decide) _ (y_conv rfl Tryz.underlying135 Tryz.underlying3 rfl (IntWalk.i64_in _ (by omega))) (fun a hF => ?_)
        refine vc_y hF rfl rfl (by decide) _ (y_add rfl rfl rfl (IntWalk.i64_in _ (by omega))) (fun a hF => ?_)
        refine vc_y hF rfl rfl (by decide) _ (y_move rfl rfl) (fun a hF => ?_)
        refine vc_y hF rfl rfl (by decide) _ (y_assign rfl rfl) (fun a hF => ?_)
        refine vc_y hF rfl rfl (by decide) _ (y_assign rfl rfl) (fun a hF => ?_)
        refine vc_y hF rfl rfl (by decide) _ (y_assign rfl rfl) (fun a hF => ?_)
        refine vc_nil ?_
        refine hK16 _ _ ?_; clear  hK16 K16
        apply wp_ret
        refine vc_ret3 hF Tryz.results158 rfl rfl rfl ?_
        obtain ⟨h1, h2, h3⟩ := rt_ok (show sizedR kk 6 r m = .ok ((r.drop kk).take u) (kk + u) by unfold sizedR; rw [if_neg hk, ← hu, if_neg hm1, if_neg hf]) []
        rw [h1, h2, h3]
        exact ⟨v', Z, kk + u, rfl, (fun _ => rfl), hZ, hA10⟩

set_option maxRecDepth 100000 in
set_option maxHeartbeats 4000000 in
theorem rt_text (w0 w : World) (R : List Seg) (A : Option Addr) (r : List UInt8) (c k : Nat) (most : Int) (hk0 : k = r.length) (hc : r.length ≤ c) (hR : Rd w0 R A r) (hA : Hp w0 R w) (hl : r.length < 140737488354000) : Calls Tryz.prog 112 #[.slice A k c, .int .i64 most] w fun e w' => ∃ k', e = .returned (.tuple #[strV ((textR r most).val [] 0), .int .i64 ((k' : Nat) : Int), .int .i64 (((textR r most).why 0 : Nat) : Int)]) ∧ ((textR r most).why 0 = 0 → k' = (textR r most).pl 0 0) ∧ Hp w0 R w' := by
  subst hk0
  have hbn : 0 ≤ bnd most 65535 ∧ bnd most 65535 ≤ 2147483647 := ⟨bnd_nn _ _ (by decide), Int.le_trans (bnd_le _ _) (by decide)⟩
  refine vc_enter Tryz.func112 rfl Tryz.ntmps112 (Nat.le_of_ble_eq_true rfl) (fun a hF => ?_)
  apply wp_seq_k; intro K1 hK1
  refine wp_region_lit ?_
  refine vc_y hF rfl rfl (by decide) _ (y_assign rfl rfl) (fun a hF => ?_)
  refine vc_y hF rfl rfl (by decide) _ (y_assign rfl rfl) (fun a hF => ?_)
  refine vc_y hF rfl rfl (by decide) _ (y_assign rfl rfl) (fun a hF => ?_)
  refine vc_nil ?_
  refine hK1 _ _ ?_; clear  hK1 K1
  apply wp_seq_k; intro K2 hK2
  refine wp_region_lit ?_
  refine vc_y hF rfl rfl (by decide) _ (y_move rfl rfl) (fun a hF => ?_)
  refine vc_y hF rfl rfl (by decide) _ (y_move rfl rfl) (fun a hF => ?_)
  refine vc_op rfl (fun K hK => ws_call hF rfl (by decide) cl159_rt rfl rfl ?_)
  with_reducible refine (rt_least w _ _ (by decide) ).mono ?_
  rintro e' w3 ⟨rfl, rfl⟩
  refine ⟨_, rfl, fun a hF => hK _ _ ?_⟩
  clear hK K
  refine vc_op rfl (fun K hK => ws_call hF rfl (by decide) cl158_rt rfl rfl ?_)
  with_reducible refine (rt_sized w0 _ R A r c 2 _ 2 _ rfl rfl (by decide) hbn hc hR hA hl ).mono ?_
  rintro e' w4 ⟨v', Z, k', rfl, hk', hZ, hA5⟩
  refine ⟨_, rfl, fun a hF => hK _ _ ?_⟩
  clear hK K
  replace hA5 : Hp w0 (Z :: R) w4 := hA5
  refine vc_y hF rfl rfl (by decide) _ (y_move rfl rfl) (fun a hF => ?_)
  refine vc_y hF rfl rfl (by decide) _ (y_extract (v := v') rfl rfl rfl) (fun a hF => ?_)
  refine vc_y hF rfl rfl (by decide) _ (y_extract (v := .int .i64 ((k' : Nat) : Int)) rfl rfl rfl) (fun a hF => ?_)
  refine vc_y hF rfl rfl (by decide) _ (y_extract (v := .int .i64 (((sizedR 2 6 r (bnd most 65535)).why 0 : Nat) : Int)) rfl rfl rfl) (fun a hF => ?_)
  refine vc_y hF rfl rfl (by decide) _ (y_assign rfl rfl) (fun a hF => ?_)
  refine vc_y hF rfl rfl (by decide) _ (y_assign rfl rfl) (fun a hF => ?_)
  refine vc_y hF rfl rfl (by decide) _ (y_assign rfl rfl) (fun a hF => ?_)
  refine vc_nil ?_
  refine hK2 _ _ ?_; clear  hK2 K2
  apply wp_seq_k; intro K3 hK3
  obtain ⟨_, AZ, cZ, rfl, _, hRZ⟩ := hZ.rd (w0 := w0) (R := [Z]) (List.mem_cons_self ..)
  refine wp_region_lit ?_
  refine vc_y hF rfl rfl (by decide) _ (y_move rfl rfl) (fun a hF => ?_)
  refine vc_y hF rfl rfl (by decide) _ (y_convStr (l := (sizedR 2 6 r (bnd most 65535)).val [] 0) rfl Tryz.underlying27 Tryz.underlying5 Tryz.underlying9 rfl rfl (hRZ.bts (Hq.sub hA5.q (sub1 ((List.mem_cons_self ..)))))) (fun a hF => ?_)
  refine vc_y hF rfl rfl (by decide) _ (y_move rfl rfl) (fun a hF => ?_)
  refine vc_y hF rfl rfl (by decide) _ (y_move rfl rfl) (fun a hF => ?_)
  refine vc_y hF rfl rfl (by decide) _ (y_assign rfl rfl) (fun a hF => ?_)
  refine vc_y hF rfl rfl (by decide) _ (y_assign rfl rfl) (fun a hF => ?_)
  refine vc_y hF rfl rfl (by decide) _ (y_assign rfl rfl) (fun a hF => ?_)
  refine vc_nil ?_
  refine hK3 _ _ ?_; clear  hK3 K3
  apply wp_ret
  refine vc_ret3 hF Tryz.results112 rfl rfl rfl ?_
  exact ⟨k', rfl, hk', hA5.tail⟩

set_option maxRecDepth 100000 in
set_option maxHeartbeats 4000000 in
theorem rt_texts (w0 w : World) (R : List Seg) (A : Option Addr) (r : List UInt8) (c : Nat) (most each : Int) (hc : r.length ≤ c) (hR : Rd w0 R A r) (hA : Hp w0 R w) (hl : r.length < 140737488354000) : Calls Tryz.prog 113 #[.slice A r.length c, .int .i64 most, .int .i64 each] w fun e w' => ∃ v' Z k', e = .returned (.tuple #[v', .int .i64 ((k' : Nat) : Int), .int .i64 (((textsR r most each).why 0 : Nat) : Int)]) ∧ ((textsR r most each).why 0 = 0 → k' = (textsR r most each).pl 0 0) ∧ Buf 9 1 Z v' ((textsR r most each).val [] 0).length (((textsR r most each).val [] 0).map strV) ∧ Hp w0 (Z :: R) w' := by
  have hbl := bnd_le most 65535
  have hbn := bnd_nn most 65535 (by decide)
  refine vc_enter Tryz.func113 rfl Tryz.ntmps113 (Nat.le_of_ble_eq_true rfl) (fun a hF => ?_)
  by_cases hk : r.length < 2
  · obtain ⟨n1, n2, n3⟩ := rt_no (show numR 2 r = .no 8 from if_pos hk) 0
    have e1 : textsR r most each = .no 8 := if_pos hk
    apply wp_seq_k; intro K1 hK1
    refine wp_region_lit ?_
    refine vc_y hF rfl rfl (by decide) _ (y_assign rfl rfl) (fun a hF => ?_)
    refine vc_y hF rfl rfl (by decide) _ (y_assign rfl rfl) (fun a hF => ?_)
    refine vc_y hF rfl rfl (by decide) _ (y_assign rfl rfl) (fun a hF => ?_)
    refine vc_nil ?_
    refine hK1 _ _ ?_; clear  hK1 K1
    apply wp_seq_k; intro K2 hK2
    refine wp_region_lit ?_
    refine vc_y hF rfl rfl (by decide) _ (y_move rfl rfl) (fun a hF => ?_)
    refine vc_op rfl (fun K hK => ws_call hF rfl (by decide) cl110_rt rfl rfl ?_)
    with_reducible refine (rt_number w0 _ _ A r c 2 2 rfl (by decide) hR hA hl ).mono ?_
    rintro e' w3 ⟨rfl, rfl⟩
    refine ⟨_, rfl, fun a hF => hK _ _ ?_⟩
    clear hK K
    rw [n1, n2, n3] at hF
    refine vc_y hF rfl rfl (by decide) _ (y_move rfl rfl) (fun a hF => ?_)
    refine vc_y hF rfl rfl (by decide) _ (y_extract (v := .int .u64 ((0 : Nat) : Int)) rfl rfl rfl) (fun a hF => ?_)
    refine vc_y hF rfl rfl (by decide) _ (y_extract (v := .int .i64 ((0 : Nat) : Int)) rfl rfl rfl) (fun a hF => ?_)
    refine vc_y hF rfl rfl (by decide) _ (y_extract (v := .int .i64 ((8 : Nat) : Int)) rfl rfl rfl) (fun a hF => ?_)
    refine vc_y hF rfl rfl (by decide) _ (y_assign rfl rfl) (fun a hF => ?_)
    refine vc_y hF rfl rfl (by decide) _ (y_assign rfl rfl) (fun a hF => ?_)
    refine vc_y hF rfl rfl (by decide) _ (y_assign rfl rfl) (fun a hF => ?_)
    refine vc_nil ?_
    refine hK2 _ _ ?_; clear  hK2 K2
    apply wp_seq_k; intro K3 hK3
    apply wp_seq_k; intro K4 hK4
    refine wp_region_lit ?_
    refine vc_y hF rfl rfl (by decide) _ (y_move rfl rfl) (fun a hF => ?_)
    refine vc_y hF rfl rfl (by decide) _ (y_cmp rfl rfl rfl rfl rfl) (fun a hF => ?_)
    refine vc_nil ?_
    refine hK4 _ _ ?_; clear  hK4 K4
    refine vc_trueB hF rfl (neq_t (by decide)) ?_
    apply wp_seq_k; intro K5 hK5
    refine wp_region_lit ?_
    refine vc_y hF rfl rfl (by decide) _ (y_move rfl rfl) (fun a hF => ?_)
    refine vc_y hF rfl rfl (by decide) _ (y_assign rfl rfl) (fun a hF => ?_)
    refine vc_y hF rfl rfl (by decide) _ (y_assign rfl rfl) (fun a hF => ?_)
    refine vc_y hF rfl rfl (by decide) _ (y_assign rfl rfl) (fun a hF => ?_)
    refine vc_nil ?_
    refine hK5 _ _ ?_; clear  hK5 K5
    apply wp_ret
    simp only [Exit.then]
    refine vc_ret3 hF Tryz.results113 rfl rfl rfl ?_
    obtain ⟨h1, h2, h3⟩ := rt_no e1 []
    rw [h1, h3]
    exact ⟨_, [], 0, rfl, (fun h => absurd h (by decide)), Buf.nil _ _, Hp.nil hA⟩
  · obtain ⟨n1, n2, n3⟩ := rt_ok (show numR 2 r = .ok (num (r.take 2)) 2 from if_neg hk) 0
    have hnb := num_two r
    obtain ⟨n, hnn⟩ : ∃ n, n = num (r.take 2) := ⟨_, rfl⟩
    rw [← hnn] at n1 hnb
    apply wp_seq_k; intro K6 hK6
    refine wp_region_lit ?_
    refine vc_y hF rfl rfl (by decide) _ (y_assign rfl rfl) (fun a hF => ?_)
    refine vc_y hF rfl rfl (by decide) _ (y_assign rfl rfl) (fun a hF => ?_)
    refine vc_y hF rfl rfl (by decide) _ (y_assign rfl rfl) (fun a hF => ?_)
    refine vc_nil ?_
    refine hK6 _ _ ?_; clear  hK6 K6
    apply wp_seq_k; intro K7 hK7
    refine wp_region_lit ?_
    refine vc_y hF rfl rfl (by decide) _ (y_move rfl rfl) (fun a hF => ?_)
    refine vc_op rfl (fun K hK => ws_call hF rfl (by decide) cl110_rt rfl rfl ?_)
    with_reducible refine (rt_number w0 _ _ A r c 2 2 rfl (by decide) hR hA hl ).mono ?_
    rintro e' w6 ⟨rfl, rfl⟩
    refine ⟨_, rfl, fun a hF => hK _ _ ?_⟩
    clear hK K
    rw [n1, n2, n3] at hF
    refine vc_y hF rfl rfl (by decide) _ (y_move rfl rfl) (fun a hF => ?_)
    refine vc_y hF rfl rfl (by decide) _ (y_extract (v := .int .u64 ((n : Nat) : Int)) rfl rfl rfl) (fun a hF => ?_)
    refine vc_y hF rfl rfl (by decide) _ (y_extract (v := .int .i64 ((2 : Nat) : Int)) rfl rfl rfl) (fun a hF => ?_)
    refine vc_y hF rfl rfl (by decide) _ (y_extract (v := .int .i64 ((0 : Nat) : Int)) rfl rfl rfl) (fun a hF => ?_)
    refine vc_y hF rfl rfl (by decide) _ (y_assign rfl rfl) (fun a hF => ?_)
    refine vc_y hF rfl rfl (by decide) _ (y_assign rfl rfl) (fun a hF => ?_)
    refine vc_y hF rfl rfl (by decide) _ (y_assign rfl rfl) (fun a hF => ?_)
    refine vc_nil ?_
    refine hK7 _ _ ?_; clear  hK7 K7
    apply wp_seq_k; intro K8 hK8
    apply wp_seq_k; intro K9 hK9
    refine wp_region_lit ?_
    refine vc_y hF rfl rfl (by decide) _ (y_move rfl rfl) (fun a hF => ?_)
    refine vc_y hF rfl rfl (by decide) _ (y_cmp rfl rfl rfl rfl rfl) (fun a hF => ?_)
    refine vc_nil ?_
    refine hK9 _ _ ?_; clear  hK9 K9
    refine vc_falseB hF rfl (neq_f rfl) ?_
    apply wp_skip
    refine hK8 _ _ ?_; clear  hK8 K8
    apply wp_seq_k; intro K10 hK10
    apply wp_seq_k; intro K11 hK11
    refine wp_region_lit ?_
    refine vc_y hF rfl rfl (by decide) _ (y_move rfl rfl) (fun a hF => ?_)
    refine vc_y hF rfl rfl (by decide) _ (y_move rfl rfl) (fun a hF => ?_)
    refine vc_op rfl (fun K hK => ws_call hF rfl (by decide) cl159_rt rfl rfl ?_)
    with_reducible refine (rt_least w _ _ (by decide) ).mono ?_
    rintro e' w9 ⟨rfl, rfl⟩
    refine ⟨_, rfl, fun a hF => hK _ _ ?_⟩
    clear hK K
    refine vc_y hF rfl rfl (by decide) _ (y_conv rfl Tryz.underlying3 Tryz.underlying135 rfl (show IntKind.u64.wrap (bnd most 65535) = bnd most 65535 by rw [IntKind.wrap_u64]; omega)) (fun a hF => ?_)
    refine vc_y hF rfl rfl (by decide) _ (y_cmp rfl rfl rfl rfl rfl) (fun a hF => ?_)
    refine vc_nil ?_
    refine hK11 _ _ ?_; clear  hK11 K11
    by_cases hm1 : bnd most 65535 < (n : Int)
    · refine vc_trueB hF rfl (gtr_t (by omega)) ?_
      have e1 : textsR r most each = .no 7 := by rw [textsR, if_neg hk, ← hnn, if_pos hm1]
      apply wp_seq_k; intro K12 hK12
      refine wp_region_lit ?_
      refine vc_y hF rfl rfl (by decide) _ (y_assign rfl rfl) (fun a hF => ?_)
      refine vc_y hF rfl rfl (by decide) _ (y_assign rfl rfl) (fun a hF => ?_)
      refine vc_y hF rfl rfl (by decide) _ (y_assign rfl rfl) (fun a hF => ?_)
      refine vc_nil ?_
      refine hK12 _ _ ?_; clear  hK12 K12
      apply wp_ret
      simp only [Exit.then]
      refine vc_ret3 hF Tryz.results113 rfl rfl rfl ?_
      obtain ⟨h1, h2, h3⟩ := rt_no e1 []
      rw [h1, h3]
      exact ⟨_, [], 0, rfl, (fun h => absurd h (by decide)), Buf.nil _ _, Hp.nil hA⟩
    · refine vc_falseB hF rfl (gtr_f (by omega)) ?_
      have hE : textsR r most each = textsGo each n [] 2 (r.drop 2) := by rw [textsR, if_neg hk, ← hnn, if_neg hm1]
      apply wp_skip
      refine hK10 _ _ ?_; clear  hK10 K10
      apply wp_seq_k; intro K13 hK13
      refine wp_region_lit ?_
      refine vc_y hF rfl rfl (by decide) _ (y_assign rfl rfl) (fun a hF => ?_)
      refine vc_nil ?_
      refine hK13 _ _ ?_; clear  hK13 K13
      apply wp_seq_k; intro K14 hK14
      apply wp_seq_k; intro K15 hK15
      refine wp_region_lit ?_
      refine vc_y hF rfl rfl (by decide) _ (y_assign rfl rfl) (fun a hF => ?_)
      refine vc_nil ?_
      refine hK15 _ _ ?_; clear  hK15 K15
      apply wp_block
      have hA10 : Hp w0 (([] : Seg) :: R) w := Hp.nil hA
      refine vc_loop (G := Nat) (fun i a x => ∃ (ss : List (List UInt8)) (q : Nat) (v1 : Value) (Z1 : Seg), i ≤ n ∧ ss.length = i ∧ q ≤ r.length ∧ textsR r most each = textsGo each (n - i) ss q (r.drop q) ∧ Buf 9 1 Z1 v1 ss.length (ss.map strV) ∧ Fr 69 [(13, .int .i64 (i : Int)), (12, v1), (10, .int .i64 (q : Int)), (0, .slice A r.length c), (2, .int .i64 each), (9, .int .u64 ((n : Nat) : Int))] a ∧ Hp w0 (Z1 :: R) x) (fun i => n - i) 0 (⟨[], 2, _, [], Nat.zero_le _, rfl, by omega, hE, Buf.nil _ _, hF.keep [13, 12, 10, 0, 2, 9] rfl, hA10⟩) ?_
      clear hF
      rintro i a w12 ⟨ss, q, v1, Z1, hi, hss, hql, hE, hZ, hF, hA11⟩
      apply wp_seq_k; intro K16 hK16
      apply wp_seq_k; intro K17 hK17
      refine wp_region_lit ?_
      refine vc_y hF rfl rfl (by decide) _ (y_move rfl rfl) (fun a hF => ?_)
      refine vc_y hF rfl rfl (by decide) _ (y_move rfl rfl) (fun a hF => ?_)
      refine vc_y hF rfl rfl (by decide) _ (y_conv rfl Tryz.underlying135 Tryz.underlying3 rfl (IntWalk.i64_in _ (by omega))) (fun a hF => ?_)
      refine vc_y hF rfl rfl (by decide) _ (y_cmp rfl rfl rfl rfl rfl) (fun a hF => ?_)
      refine vc_nil ?_
      refine hK17 _ _ ?_; clear  hK17 K17
      by_cases hlt : i < n
      · refine vc_trueB hF rfl (lss_t (by omega)) ?_
        rw [show n - i = (n - (i + 1)) + 1 by omega, textsGo] at hE
        have hdl : (r.drop q).length = r.length - q := List.length_drop
        obtain ⟨A1, c1, rfl, hc1, hR1⟩ := hZ.rc (w0 := w0) (R := [Z1]) (List.mem_cons_self ..)
        cases hr : textR (r.drop q) each with
        | no e =>
          have he := sized_no hr
          obtain ⟨t1, _, t3⟩ := rt_no hr []
          rw [hr] at hE
          simp only at hE
          apply wp_skip
          refine hK16 _ _ ?_; clear  hK16 K16
          apply wp_seq_k; intro K18 hK18
          apply wp_block
          apply wp_seq_k; intro K19 hK19
          refine wp_region_lit ?_
          refine vc_y hF rfl rfl (by decide) _ (y_move rfl rfl) (fun a hF => ?_)
          refine vc_y hF rfl rfl (by decide) _ (y_move rfl rfl) (fun a hF => ?_)
          refine vc_y hF rfl rfl (by decide) _ (y_slice rfl Tryz.underlying27 kb_sz_byte rfl (.some rfl rfl) (.none _) (by omega) (by omega) rfl) (fun a hF => ?_)
          refine vc_y hF rfl rfl (by decide) _ (y_move rfl rfl) (fun a hF => ?_)
          refine vc_op rfl (fun K hK => ws_call hF rfl (by decide) cl112_rt rfl rfl ?_)
          with_reducible refine (rt_text w0 _ (Z1 :: R) _ (r.drop q) _ _ each hdl.symm (by omega) ((hR.drop q hc).mono (subC (sub0))) hA11 (by omega) ).mono ?_
          rintro e' w13 ⟨k', rfl, hk', hA14⟩
          refine ⟨_, rfl, fun a hF => hK _ _ ?_⟩
          clear hK K
          replace hA14 : Hp w0 (Z1 :: R) w13 := hA14
          rw [t1, t3] at hF
          refine vc_y hF rfl rfl (by decide) _ (y_move rfl rfl) (fun a hF => ?_)
          refine vc_y hF rfl rfl (by decide) _ (y_extract (v := strV []) rfl rfl rfl) (fun a hF => ?_)
          refine vc_y hF rfl rfl (by decide) _ (y_extract (v := .int .i64 ((k' : Nat) : Int)) rfl rfl rfl) (fun a hF => ?_)
          refine vc_y hF rfl rfl (by decide) _ (y_extract (v := .int .i64 (e : Int)) rfl rfl rfl) (fun a hF => ?_)
          refine vc_y hF rfl rfl (by decide) _ (y_assign rfl rfl) (fun a hF => ?_)
          refine vc_y hF rfl rfl (by decide) _ (y_assign rfl rfl) (fun a hF => ?_)
          refine vc_y hF rfl rfl (by decide) _ (y_assign rfl rfl) (fun a hF => ?_)
          refine vc_nil ?_
          refine hK19 _ _ ?_; clear  hK19 K19
          apply wp_seq_k; intro K20 hK20
          apply wp_seq_k; intro K21 hK21
          refine wp_region_lit ?_
          refine vc_y hF rfl rfl (by decide) _ (y_move rfl rfl) (fun a hF => ?_)
          refine vc_y hF rfl rfl (by decide) _ (y_cmp rfl rfl rfl rfl rfl) (fun a hF => ?_)
          refine vc_nil ?_
          refine hK21 _ _ ?_; clear  hK21 K21
          refine vc_trueB hF rfl (neq_t (show (e : Int) ≠ 0 by omega)) ?_
          apply wp_seq_k; intro K22 hK22
          refine wp_region_lit ?_
          refine vc_y hF rfl rfl (by decide) _ (y_move rfl rfl) (fun a hF => ?_)
          refine vc_y hF rfl rfl (by decide) _ (y_assign rfl rfl) (fun a hF => ?_)
          refine vc_y hF rfl rfl (by decide) _ (y_assign rfl rfl) (fun a hF => ?_)
          refine vc_y hF rfl rfl (by decide) _ (y_assign rfl rfl) (fun a hF => ?_)
          refine vc_nil ?_
          refine hK22 _ _ ?_; clear  hK22 K22
          apply wp_ret
          simp only [Exit.then, Exit.inBlock]
          refine vc_ret3 hF Tryz.results113 rfl rfl rfl ?_
          have hA15 : Hp w0 (R) w13 := Hp.sel [Z1] R [] [0] hA14 rfl
          obtain ⟨h1, h2, h3⟩ := rt_no hE []
          rw [h1, h3]
          exact ⟨_, [], 0, rfl, (fun h => absurd h (by omega)), Buf.nil _ _, Hp.nil hA15⟩
        | ok t k =>
          have hle := sized_le hr
          rw [List.length_drop] at hle
          obtain ⟨t1, t2, t3⟩ := rt_ok hr []
          rw [hr] at hE
          simp only at hE
          apply wp_skip
          refine hK16 _ _ ?_; clear  hK16 K16
          apply wp_seq_k; intro K23 hK23
          apply wp_block
          apply wp_seq_k; intro K24 hK24
          refine wp_region_lit ?_
          refine vc_y hF rfl rfl (by decide) _ (y_move rfl rfl) (fun a hF => ?_)
          refine vc_y hF rfl rfl (by decide) _ (y_move rfl rfl) (fun a hF => ?_)
          refine vc_y hF rfl rfl (by decide) _ (y_slice rfl Tryz.underlying27 kb_sz_byte rfl (.some rfl rfl) (.none _) (by omega) (by omega) rfl) (fun a hF => ?_)
          refine vc_y hF rfl rfl (by decide) _ (y_move rfl rfl) (fun a hF => ?_)
          refine vc_op rfl (fun K hK => ws_call hF rfl (by decide) cl112_rt rfl rfl ?_)
          with_reducible refine (rt_text w0 _ (Z1 :: R) _ (r.drop q) _ _ each hdl.symm (by omega) ((hR.drop q hc).mono (subC (sub0))) hA11 (by omega) ).mono ?_
          rintro e' w16 ⟨k', rfl, hk', hA17⟩
          refine ⟨_, rfl, fun a hF => hK _ _ ?_⟩
          clear hK K
          replace hA17 : Hp w0 (Z1 :: R) w16 := hA17
          obtain rfl : k' = k := (hk' t3).trans t2
          rw [t1, t3] at hF
          refine vc_y hF rfl rfl (by decide) _ (y_move rfl rfl) (fun a hF => ?_)
          refine vc_y hF rfl rfl (by decide) _ (y_extract (v := strV t) rfl rfl rfl) (fun a hF => ?_)
          refine vc_y hF rfl rfl (by decide) _ (y_extract (v := .int .i64 ((k' : Nat) : Int)) rfl rfl rfl) (fun a hF => ?_)
          refine vc_y hF rfl rfl (by decide) _ (y_extract (v := .int .i64 ((0 : Nat) : Int)) rfl rfl rfl) (fun a hF => ?_)
          refine vc_y hF rfl rfl (by decide) _ (y_assign rfl rfl) (fun a hF => ?_)
          refine vc_y hF rfl rfl (by decide) _ (y_assign rfl rfl) (fun a hF => ?_)
          refine vc_y hF rfl rfl (by decide) _ (y_assign rfl rfl) (fun a hF => ?_)
          refine vc_nil ?_
          refine hK24 _ _ ?_; clear  hK24 K24
          apply wp_seq_k; intro K25 hK25
          apply wp_seq_k; intro K26 hK26
          refine wp_region_lit ?_
          refine vc_y hF rfl rfl (by decide) _ (y_move rfl rfl) (fun a hF => ?_)
          refine vc_y hF rfl rfl (by decide) _ (y_cmp rfl rfl rfl rfl rfl) (fun a hF => ?_)
          refine vc_nil ?_
          refine hK26 _ _ ?_; clear  hK26 K26
          refine vc_falseB hF rfl (neq_f rfl) ?_
          by_cases hi0 : i = 0
          · have h00 : ss = [] := List.length_eq_zero_iff.1 (by omega)
            rw [if_neg (fun h => h.1 h00)] at hE
            apply wp_skip
            refine hK25 _ _ ?_; clear  hK25 K25
            apply wp_seq_k; intro K27 hK27
            apply wp_seq_k; intro K28 hK28
            refine wp_region_lit ?_
            refine vc_y hF rfl rfl (by decide) _ (y_move rfl rfl) (fun a hF => ?_)
            refine vc_y hF rfl rfl (by decide) _ (y_cmp rfl rfl rfl rfl (gtr_f (by omega))) (fun a hF => ?_)
            refine vc_y hF rfl rfl (by decide) _ (y_move rfl rfl) (fun a hF => ?_)
            refine vc_skip hF rfl rfl rfl rfl rfl rfl (by decide) (fun a hF => ?_)
            refine vc_skip hF rfl rfl rfl rfl rfl rfl (by decide) (fun a hF => ?_)
            refine vc_skip hF rfl rfl rfl rfl rfl rfl (by decide) (fun a hF => ?_)
            refine vc_skip hF rfl rfl rfl rfl rfl rfl (by decide) (fun a hF => ?_)
            refine vc_skip hF rfl rfl rfl rfl rfl rfl (by decide) (fun a hF => ?_)
            refine vc_skip hF rfl rfl rfl rfl rfl rfl (by decide) (fun a hF => ?_)
            refine vc_skip hF rfl rfl rfl rfl rfl rfl (by decide) (fun a hF => ?_)
            refine vc_y hF rfl rfl (by decide) _ (y_pick rfl rfl rfl) (fun a hF => ?_)
            refine vc_nil ?_
            refine hK28 _ _ ?_; clear  hK28 K28
            refine vc_false hF rfl ?_
            apply wp_skip
            refine hK27 _ _ ?_; clear  hK27 K27
            apply wp_seq_k; intro K29 hK29
            refine wp_region_lit ?_
            refine vc_y hF rfl rfl (by decide) _ (y_move rfl rfl) (fun a hF => ?_)
            refine vc_y hF rfl rfl (by decide) _ (y_move rfl rfl) (fun a hF => ?_)
            refine vc_op rfl (fun K hK => hs_bs1 hF rfl (by decide) rfl hA17 rfl (hr_bsS t) (fun b18 w19 a hb18 hF hA20 => hK _ _ ?_))
            clear hK K
            replace hA20 : Hp w0 ([row b18 9 [strV t]] :: Z1 :: R) w19 := hA20
            refine vc_op rfl (fun K hK => hs_append hF rfl (by decide) rfl hA20 1 rfl hZ Tryz.underlying23 hr_elemS rfl rfl (Rc.srcC (W := [strV t]) (m := 1) (size := 1) (R := [row b18 9 [strV t]] :: Z1 :: R) (Rc.ofRow (i := 0) (off := 0) rfl rfl) hA20.q Tryz.underlying23 (by decide) rfl (by simp [Value.oneCell'])) (by omega) (by decide) (fun v2 Z2 w21 a hZ2 hF hA22 => hK _ _ ?_))
            clear hK K
            replace hA22 : Hp w0 ([row b18 9 [strV t]] :: Z2 :: R) w21 := hA22
            replace hZ2 : Buf 9 1 Z2 v2 (ss ++ [t]).length ((ss ++ [t]).map strV) := by rw [List.length_append, List.map_append]; exact hZ2
            refine vc_y hF rfl rfl (by decide) _ (y_assign rfl rfl) (fun a hF => ?_)
            refine vc_nil ?_
            refine hK29 _ _ ?_; clear  hK29 K29
            refine wp_region_lit ?_
            refine vc_y hF rfl rfl (by decide) _ (y_move rfl rfl) (fun a hF => ?_)
            refine vc_y hF rfl rfl (by decide) _ (y_move rfl rfl) (fun a hF => ?_)
            refine vc_y hF rfl rfl (by decide) _ (y_add rfl rfl rfl (IntWalk.i64_in _ (by omega))) (fun a hF => ?_)
            refine vc_y hF rfl rfl (by decide) _ (y_assign rfl rfl) (fun a hF => ?_)
            refine vc_nil ?_
            refine hK23 _ _ ?_; clear  hK23 K23
            refine wp_region_lit ?_
            refine vc_y hF rfl rfl (by decide) _ (y_move rfl rfl) (fun a hF => ?_)
            refine vc_y hF rfl rfl (by decide) _ (y_add rfl rfl rfl (IntWalk.i64_in _ (by omega))) (fun a hF => ?_)
            refine vc_y hF rfl rfl (by decide) _ (y_assign rfl rfl) (fun a hF => ?_)
            refine vc_nil ?_
            have hA23 : Hp w0 (Z2 :: R) w21 := Hp.sel [[row b18 9 [strV t]], Z2] R [1] [0] hA22 rfl
            exact ⟨i + 1, by omega, ss ++ [t], q + k', v2, Z2, by omega, by rw [List.length_append, hss]; rfl, by omega, by rw [hE, List.drop_drop], hZ2, hF.keep [13, 12, 10, 0, 2, 9] rfl, hA23⟩
          · obtain ⟨u, hu⟩ : ∃ u, ss[ss.length - 1]? = some u := ⟨_, List.getElem?_eq_getElem (by omega)⟩
            have hlast : ss.getLastD [] = u := by rw [List.getLastD_eq_getLast?, List.getLast?_eq_getElem?, hu]; rfl
            obtain ⟨b1, o1, rfl, hcc⟩ := hR1.ne (i := ss.length - 1) (by rw [List.length_map]; omega)
            rw [hlast] at hE
            by_cases hge : strB .geq u t = true
            · rw [if_pos (show ss ≠ [] ∧ strB .geq u t = true from ⟨fun e => by rw [e] at hss; exact hi0 hss.symm, hge⟩)] at hE
              apply wp_skip
              refine hK25 _ _ ?_; clear  hK25 K25
              apply wp_seq_k; intro K30 hK30
              apply wp_seq_k; intro K31 hK31
              refine wp_region_lit ?_
              refine vc_y hF rfl rfl (by decide) _ (y_move rfl rfl) (fun a hF => ?_)
              refine vc_y hF rfl rfl (by decide) _ (y_cmp rfl rfl rfl rfl (gtr_t (by omega))) (fun a hF => ?_)
              refine vc_y hF rfl rfl (by decide) _ (y_move rfl rfl) (fun a hF => ?_)
              refine vc_yg hF rfl rfl rfl rfl rfl (by decide) _ (y_move rfl rfl) (fun a hF => ?_)
              refine vc_yg hF rfl rfl rfl rfl rfl (by decide) _ (y_move rfl rfl) (fun a hF => ?_)
              refine vc_yg hF rfl rfl rfl rfl rfl (by decide) _ (y_move rfl rfl) (fun a hF => ?_)
              refine vc_yg hF rfl rfl rfl rfl rfl (by decide) _ (y_sub (r := ((ss.length - 1 : Nat) : Int)) rfl rfl rfl (by rw [IntWalk.i64_in _ (by omega)]; omega)) (fun a hF => ?_)
              refine vc_yg hF rfl rfl rfl rfl rfl (by decide) _ (y_ixSl rfl Tryz.underlying23 sz9_rt rfl rfl (ss.length - 1) rfl (by omega) (ad2 _ _ _)) (fun a hF => ?_)
              refine vc_yg hF rfl rfl rfl rfl rfl (by decide) _ (y_ldC (u := strV u) rfl (Hq.sub hA17.q (sub1 ((List.mem_cons_self ..)))) rfl hcc (ss.length - 1) (by rw [List.length_map]; omega) rfl (by rw [List.getElem?_map, hu]; rfl) nr9_rt) (fun a hF => ?_)
              refine vc_yg hF rfl rfl rfl rfl rfl (by decide) _ (y_cmpS rfl rfl rfl rfl (((strB_leq _ _).trans hge))) (fun a hF => ?_)
              refine vc_y hF rfl rfl (by decide) _ (y_pick rfl rfl rfl) (fun a hF => ?_)
              refine vc_nil ?_
              refine hK31 _ _ ?_; clear  hK31 K31
              refine vc_true hF rfl ?_
              apply wp_seq_k; intro K32 hK32
              refine wp_region_lit ?_
              refine vc_y hF rfl rfl (by decide) _ (y_assign rfl rfl) (fun a hF => ?_)
              refine vc_y hF rfl rfl (by decide) _ (y_assign rfl rfl) (fun a hF => ?_)
              refine vc_y hF rfl rfl (by decide) _ (y_assign rfl rfl) (fun a hF => ?_)
              refine vc_nil ?_
              refine hK32 _ _ ?_; clear  hK32 K32
              apply wp_ret
              simp only [Exit.then, Exit.inBlock]
              refine vc_ret3 hF Tryz.results113 rfl rfl rfl ?_
              have hA24 : Hp w0 (R) w16 := Hp.sel [Z1] R [] [0] hA17 rfl
              obtain ⟨h1, h2, h3⟩ := rt_no hE []
              rw [h1, h3]
              exact ⟨_, [], 0, rfl, (fun h => absurd h (by decide)), Buf.nil _ _, Hp.nil hA24⟩
            · replace hge : strB .geq u t = false := by simpa using hge
              rw [if_neg (show ¬(ss ≠ [] ∧ strB .geq u t = true) from fun h => by rw [hge] at h; exact absurd h.2 (by decide))] at hE
              apply wp_skip
              refine hK25 _ _ ?_; clear  hK25 K25
              apply wp_seq_k; intro K33 hK33
              apply wp_seq_k; intro K34 hK34
              refine wp_region_lit ?_
              refine vc_y hF rfl rfl (by decide) _ (y_move rfl rfl) (fun a hF => ?_)
              refine vc_y hF rfl rfl (by decide) _ (y_cmp rfl rfl rfl rfl (gtr_t (by omega))) (fun a hF => ?_)
              refine vc_y hF rfl rfl (by decide) _ (y_move rfl rfl) (fun a hF => ?_)
              refine vc_yg hF rfl rfl rfl rfl rfl (by decide) _ (y_move rfl rfl) (fun a hF => ?_)
              refine vc_yg hF rfl rfl rfl rfl rfl (by decide) _ (y_move rfl rfl) (fun a hF => ?_)
              refine vc_yg hF rfl rfl rfl rfl rfl (by decide) _ (y_move rfl rfl) (fun a hF => ?_)
              refine vc_yg hF rfl rfl rfl rfl rfl (by decide) _ (y_sub (r := ((ss.length - 1 : Nat) : Int)) rfl rfl rfl (by rw [IntWalk.i64_in _ (by omega)]; omega)) (fun a hF => ?_)
              refine vc_yg hF rfl rfl rfl rfl rfl (by decide) _ (y_ixSl rfl Tryz.underlying23 sz9_rt rfl rfl (ss.length - 1) rfl (by omega) (ad2 _ _ _)) (fun a hF => ?_)
              refine vc_yg hF rfl rfl rfl rfl rfl (by decide) _ (y_ldC (u := strV u) rfl (Hq.sub hA17.q (sub1 ((List.mem_cons_self ..)))) rfl hcc (ss.length - 1) (by rw [List.length_map]; omega) rfl (by rw [List.getElem?_map, hu]; rfl) nr9_rt) (fun a hF => ?_)
              refine vc_yg hF rfl rfl rfl rfl rfl (by decide) _ (y_cmpS rfl rfl rfl rfl (((strB_leq _ _).trans hge))) (fun a hF => ?_)
              refine vc_y hF rfl rfl (by decide) _ (y_pick rfl rfl rfl) (fun a hF => ?_)
              refine vc_nil ?_
              refine hK34 _ _ ?_; clear  hK34 K34
              refine vc_false hF rfl ?_
              apply wp_skip
              refine hK33 _ _ ?_; clear  hK33 K33
              apply wp_seq_k; intro K35 hK35
              refine wp_region_lit ?_
              refine vc_y hF rfl rfl (by decide) _ (y_move rfl rfl) (fun a hF => ?_)
              refine vc_y hF rfl rfl (by decide) _ (y_move rfl rfl) (fun a hF => ?_)
              refine vc_op rfl (fun K hK => hs_bs1 hF rfl (by decide) rfl hA17 rfl (hr_bsS t) (fun b25 w26 a hb25 hF hA27 => hK _ _ ?_))
              clear hK K
              replace hA27 : Hp w0 ([row b25 9 [strV t]] :: Z1 :: R) w26 := hA27
              refine vc_op rfl (fun K hK => hs_append hF rfl (by decide) rfl hA27 1 rfl hZ Tryz.underlying23 hr_elemS rfl rfl (Rc.srcC (W := [strV t]) (m := 1) (size := 1) (R := [row b25 9 [strV t]] :: Z1 :: R) (Rc.ofRow (i := 0) (off := 0) rfl rfl) hA27.q Tryz.underlying23 (by decide) rfl (by simp [Value.oneCell'])) (by omega) (by decide) (fun v2 Z2 w28 a hZ2 hF hA29 => hK _ _ ?_))
              clear hK K
              replace hA29 : Hp w0 ([row b25 9 [strV t]] :: Z2 :: R) w28 := hA29
              replace hZ2 : Buf 9 1 Z2 v2 (ss ++ [t]).length ((ss ++ [t]).map strV) := by rw [List.length_append, List.map_append]; exact hZ2
              refine vc_y hF rfl rfl (by decide) _ (y_assign rfl rfl) (fun a hF => ?_)
              refine vc_nil ?_
              refine hK35 _ _ ?_; clear  hK35 K35
              refine wp_region_lit ?_
              refine vc_y hF rfl rfl (by decide) _ (y_move rfl rfl) (fun a hF => ?_)
              refine vc_y hF rfl rfl (by decide) _ (y_move rfl rfl) (fun a hF => ?_)
              refine vc_y hF rfl rfl (by decide) _ (y_add rfl rfl rfl (IntWalk.i64_in _ (by omega))) (fun a hF => ?_)
              refine vc_y hF rfl rfl (by decide) _ (y_assign rfl rfl) (fun a hF => ?_)
              refine vc_nil ?_
              refine hK23 _ _ ?_; clear  hK23 K23
              refine wp_region_lit ?_
              refine vc_y hF rfl rfl (by decide) _ (y_move rfl rfl) (fun a hF => ?_)
              refine vc_y hF rfl rfl (by decide) _ (y_add rfl rfl rfl (IntWalk.i64_in _ (by omega))) (fun a hF => ?_)
              refine vc_y hF rfl rfl (by decide) _ (y_assign rfl rfl) (fun a hF => ?_)
              refine vc_nil ?_
              have hA30 : Hp w0 (Z2 :: R) w28 := Hp.sel [[row b25 9 [strV t]], Z2] R [1] [0] hA29 rfl
              exact ⟨i + 1, by omega, ss ++ [t], q + k', v2, Z2, by omega, by rw [List.length_append, hss]; rfl, by omega, by rw [hE, List.drop_drop], hZ2, hF.keep [13, 12, 10, 0, 2, 9] rfl, hA30⟩
      · refine vc_falseB hF rfl (lss_f (by omega)) ?_
        obtain rfl : i = n := by omega
        rw [Nat.sub_self, textsGo] at hE
        apply wp_exit
        refine hK14 _ _ ?_; clear hK16 K16 hK14 K14
        apply wp_seq_k; intro K36 hK36
        refine wp_region_lit ?_
        refine vc_y hF rfl rfl (by decide) _ (y_move rfl rfl) (fun a hF => ?_)
        refine vc_y hF rfl rfl (by decide) _ (y_move rfl rfl) (fun a hF => ?_)
        refine vc_y hF rfl rfl (by decide) _ (y_assign rfl rfl) (fun a hF => ?_)
        refine vc_y hF rfl rfl (by decide) _ (y_assign rfl rfl) (fun a hF => ?_)
        refine vc_y hF rfl rfl (by decide) _ (y_assign rfl rfl) (fun a hF => ?_)
        refine vc_nil ?_
        refine hK36 _ _ ?_; clear  hK36 K36
        apply wp_ret
        refine vc_ret3 hF Tryz.results113 rfl rfl rfl ?_
        obtain ⟨h1, h2, h3⟩ := rt_ok hE []
        rw [h1, h2, h3]
        exact ⟨v1, Z1, q, rfl, (fun _ => rfl), hZ, hA11⟩
end Go.Proofs.YtepbmdlgdaedpaaGreatDoor
