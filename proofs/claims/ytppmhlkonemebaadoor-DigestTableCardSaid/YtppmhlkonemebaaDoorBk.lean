/- Small functions of the statements' book. -/
import Derived.Test.YtppmhlkonemebaaDoorProg
import Derived.Test.YtppmhlkonemebaaDoorHr
namespace Go.Proofs.YtppmhlkonemebaaDoor
open Go.RowKit Go.Dk

theorem nr5_bk : notRow Tryd.prog 5 = true := by kernel_rfl
theorem nr24_bk : notRow Tryd.prog 24 = true := by kernel_rfl
theorem sz5_bk : (Tryd.prog.info? 5).map (·.size) = some 1 := by kernel_rfl
theorem sz24_bk : (Tryd.prog.info? 24).map (·.size) = some 1 := by kernel_rfl
theorem cl12_bk : CallsTo Tryd.prog 12 := ⟨_, Tryd.func12, by kernel_rfl, by kernel_rfl⟩


def bkRoomI (left n : Int) : Int := if left < 0 ∨ left < n then -1 else left - n
theorem bkRoomI_ge {left n : Int} (h : 0 ≤ n) (hl : -1 ≤ left) : -1 ≤ bkRoomI left n ∧ bkRoomI left n ≤ left ∧ (0 ≤ bkRoomI left n → bkRoomI left n = left - n ∧ 0 ≤ left) := by unfold bkRoomI; split <;> omega

set_option maxRecDepth 100000 in
set_option maxHeartbeats 1000000 in
theorem bk_room (w : World) (left n : Int) (hl : -1 ≤ left ∧ left ≤ 2147483647) (hn : 0 ≤ n ∧ n ≤ 9223372036854775807) : Calls Tryd.prog 12 #[.int .i64 left, .int .i64 n] w fun e w' => e = .returned (.int .i64 (bkRoomI left n)) ∧ w = w' := by
  rw [bkRoomI]
  by_cases h1 : left < 0
  · refine vc_enter Tryd.func12 rfl Tryd.ntmps12 (Nat.le_of_ble_eq_true rfl) (fun a hF => ?_)
    apply wp_seq_k; intro K1 hK1
    refine wp_region_lit ?_
    refine vc_y hF rfl rfl (by decide) _ (y_assign rfl rfl) (fun a hF => ?_)
    refine vc_nil ?_
    refine hK1 _ _ ?_; clear  hK1 K1
    apply wp_seq_k; intro K2 hK2
    apply wp_seq_k; intro K3 hK3
    refine wp_region_lit ?_
    refine vc_y hF rfl rfl (by decide) _ (y_move rfl rfl) (fun a hF => ?_)
    refine vc_y hF rfl rfl (by decide) _ (y_cmp rfl rfl rfl rfl (lss_t (by omega))) (fun a hF => ?_)
    refine vc_y hF rfl rfl (by decide) _ (y_move rfl rfl) (fun a hF => ?_)
    refine vc_skip hF rfl rfl rfl rfl rfl rfl (by decide) (fun a hF => ?_)
    refine vc_skip hF rfl rfl rfl rfl rfl rfl (by decide) (fun a hF => ?_)
    refine vc_skip hF rfl rfl rfl rfl rfl rfl (by decide) (fun a hF => ?_)
    refine vc_y hF rfl rfl (by decide) _ (y_pick rfl rfl rfl) (fun a hF => ?_)
    refine vc_nil ?_
    refine hK3 _ _ ?_; clear  hK3 K3
    refine vc_true hF rfl ?_
    apply wp_seq_k; intro K4 hK4
    refine wp_region_lit ?_
    refine vc_y hF rfl rfl (by decide) _ (y_assign rfl rfl) (fun a hF => ?_)
    refine vc_nil ?_
    refine hK4 _ _ ?_; clear  hK4 K4
    apply wp_ret
    simp only [Exit.then]
    refine vc_ret1 hF Tryd.results12 rfl ?_
    rw [if_pos (.inl h1)]
    exact ⟨rfl, rfl⟩
  · by_cases h2 : left < n
    · refine vc_enter Tryd.func12 rfl Tryd.ntmps12 (Nat.le_of_ble_eq_true rfl) (fun a hF => ?_)
      apply wp_seq_k; intro K5 hK5
      refine wp_region_lit ?_
      refine vc_y hF rfl rfl (by decide) _ (y_assign rfl rfl) (fun a hF => ?_)
      refine vc_nil ?_
      refine hK5 _ _ ?_; clear  hK5 K5
      apply wp_seq_k; intro K6 hK6
      apply wp_seq_k; intro K7 hK7
      refine wp_region_lit ?_
      refine vc_y hF rfl rfl (by decide) _ (y_move rfl rfl) (fun a hF => ?_)
      refine vc_y hF rfl rfl (by decide) _ (y_cmp rfl rfl rfl rfl (lss_f (by omega))) (fun a hF => ?_)
      refine vc_y hF rfl rfl (by decide) _ (y_move rfl rfl) (fun a hF => ?_)
      refine vc_yg hF rfl rfl rfl rfl rfl (by decide) _ (y_move rfl rfl) (fun a hF => ?_)
      refine vc_yg hF rfl rfl rfl rfl rfl (by decide) _ (y_move rfl rfl) (fun a hF => ?_)
      refine vc_yg hF rfl rfl rfl rfl rfl (by decide) _ (y_cmp rfl rfl rfl rfl (gtr_t (by omega))) (fun a hF => ?_)
      refine vc_y hF rfl rfl (by decide) _ (y_pick rfl rfl rfl) (fun a hF => ?_)
      refine vc_nil ?_
      refine hK7 _ _ ?_; clear  hK7 K7
      refine vc_true hF rfl ?_
      apply wp_seq_k; intro K8 hK8
      refine wp_region_lit ?_
      refine vc_y hF rfl rfl (by decide) _ (y_assign rfl rfl) (fun a hF => ?_)
      refine vc_nil ?_
      refine hK8 _ _ ?_; clear  hK8 K8
      apply wp_ret
      simp only [Exit.then]
      refine vc_ret1 hF Tryd.results12 rfl ?_
      rw [if_pos (.inr h2)]
      exact ⟨rfl, rfl⟩
    · refine vc_enter Tryd.func12 rfl Tryd.ntmps12 (Nat.le_of_ble_eq_true rfl) (fun a hF => ?_)
      apply wp_seq_k; intro K9 hK9
      refine wp_region_lit ?_
      refine vc_y hF rfl rfl (by decide) _ (y_assign rfl rfl) (fun a hF => ?_)
      refine vc_nil ?_
      refine hK9 _ _ ?_; clear  hK9 K9
      apply wp_seq_k; intro K10 hK10
      apply wp_seq_k; intro K11 hK11
      refine wp_region_lit ?_
      refine vc_y hF rfl rfl (by decide) _ (y_move rfl rfl) (fun a hF => ?_)
      refine vc_y hF rfl rfl (by decide) _ (y_cmp rfl rfl rfl rfl (lss_f (by omega))) (fun a hF => ?_)
      refine vc_y hF rfl rfl (by decide) _ (y_move rfl rfl) (fun a hF => ?_)
      refine vc_yg hF rfl rfl rfl rfl rfl (by decide) _ (y_move rfl rfl) (fun a hF => ?_)
      refine vc_yg hF rfl rfl rfl rfl rfl (by decide) _ (y_move rfl rfl) (fun a hF => ?_)
      refine vc_yg hF rfl rfl rfl rfl rfl (by decide) _ (y_cmp rfl rfl rfl rfl (gtr_f (by omega))) (fun a hF => ?_)
      refine vc_y hF rfl rfl (by decide) _ (y_pick rfl rfl rfl) (fun a hF => ?_)
      refine vc_nil ?_
      refine hK11 _ _ ?_; clear  hK11 K11
      refine vc_false hF rfl ?_
      apply wp_skip
      refine hK10 _ _ ?_; clear  hK10 K10
      apply wp_seq_k; intro K12 hK12
      refine wp_region_lit ?_
      refine vc_y hF rfl rfl (by decide) _ (y_move rfl rfl) (fun a hF => ?_)
      refine vc_y hF rfl rfl (by decide) _ (y_move rfl rfl) (fun a hF => ?_)
      refine vc_y hF rfl rfl (by decide) _ (y_sub rfl rfl rfl (IntWalk.i64_in _ (by omega))) (fun a hF => ?_)
      refine vc_y hF rfl rfl (by decide) _ (y_assign rfl rfl) (fun a hF => ?_)
      refine vc_nil ?_
      refine hK12 _ _ ?_; clear  hK12 K12
      apply wp_ret
      refine vc_ret1 hF Tryd.results12 rfl ?_
      rw [if_neg (by omega)]
      exact ⟨rfl, rfl⟩

set_option maxRecDepth 100000 in
set_option maxHeartbeats 1000000 in
theorem bk_lists (w0 w : World) (R : List Seg) (left : Int) (pa : Option Addr) (ps : List (Piece)) (c : Nat) (hP : Rc w0 R pa (ps.map pieceV)) (hA : Hp w0 R w) (hl : -1 ≤ left ∧ left ≤ 2147483647) (hlen : ∀ q ∈ ps, q.2.2.length ≤ 9223372036854775807) (hn : ps.length ≤ 9223372036854775807) : Calls Tryd.prog 23 #[.int .i64 left, .slice pa ps.length c] w fun e w' => ∃ z : Int, e = .returned (.int .i64 z) ∧ (-1 ≤ z ∧ z ≤ 2147483647) ∧ (0 ≤ z → 0 ≤ left ∧ z = left - (ps.map (fun p : Piece => p.2.2.length + 1)).sum) ∧ w = w' := by
  refine vc_enter Tryd.func23 rfl Tryd.ntmps23 (Nat.le_of_ble_eq_true rfl) (fun a hF => ?_)
  apply wp_seq_k; intro K1 hK1
  refine wp_region_lit ?_
  refine vc_y hF rfl rfl (by decide) _ (y_assign rfl rfl) (fun a hF => ?_)
  refine vc_nil ?_
  refine hK1 _ _ ?_; clear  hK1 K1
  apply wp_seq_k; intro K2 hK2
  apply wp_seq_k; intro K3 hK3
  refine wp_region_lit ?_
  refine vc_y hF rfl rfl (by decide) _ (y_assign rfl rfl) (fun a hF => ?_)
  refine vc_nil ?_
  refine hK3 _ _ ?_; clear  hK3 K3
  apply wp_block
  refine vc_loop (G := Nat) (fun i a x => ∃ (z : Int), i ≤ ps.length ∧ (-1 ≤ z ∧ z ≤ 2147483647) ∧ (0 ≤ z → 0 ≤ left ∧ z = left - ((ps.take i).map (fun p : Piece => p.2.2.length + 1)).sum) ∧ (w = x) ∧ Fr 26 [(5, .int .i64 (i : Int)), (0, .int .i64 z), (1, .slice pa ps.length c)] a ∧ Hp w0 (R) x) (fun i => ps.length - i) 0 (⟨left, Nat.zero_le _, hl, fun h => ⟨h, by simp⟩, rfl, hF.keep [5, 0, 1] rfl, hA⟩) ?_
  clear hF
  rintro i a w2 ⟨z, hi, hz, hzs, hw, hF, hA1⟩
  subst hw
  by_cases hlt : i < ps.length
  · obtain ⟨q, hp⟩ : ∃ q, ps[i]? = some q := ⟨_, List.getElem?_eq_getElem hlt⟩
    have hq := hlen q (List.mem_of_getElem? hp)
    obtain ⟨b, o, rfl, hc⟩ := hP.ne (i := i) (by rw [List.length_map]; exact hlt)
    have hsum : ((ps.take (i + 1)).map (fun p : Piece => p.2.2.length + 1)).sum = ((ps.take i).map (fun p : Piece => p.2.2.length + 1)).sum + (q.2.2.length + 1) := by rw [List.take_add_one, hp]; simp
    by_cases hz0 : 0 ≤ z
    · have r1 := bkRoomI_ge (left := z) (n := 1) (by omega) (by omega)
      have r2 := bkRoomI_ge (left := bkRoomI z 1) (n := (q.2.2.length : Int)) (by omega) (by omega)
      apply wp_seq_k; intro K4 hK4
      apply wp_seq_k; intro K5 hK5
      refine wp_region_lit ?_
      refine vc_y hF rfl rfl (by decide) _ (y_move rfl rfl) (fun a hF => ?_)
      refine vc_y hF rfl rfl (by decide) _ (y_move rfl rfl) (fun a hF => ?_)
      refine vc_y hF rfl rfl (by decide) _ (y_lenSl rfl Tryd.underlying29 rfl rfl) (fun a hF => ?_)
      refine vc_y hF rfl rfl (by decide) _ (y_cmp rfl rfl rfl rfl (lss_t (by omega))) (fun a hF => ?_)
      refine vc_y hF rfl rfl (by decide) _ (y_move rfl rfl) (fun a hF => ?_)
      refine vc_yg hF rfl rfl rfl rfl rfl (by decide) _ (y_move rfl rfl) (fun a hF => ?_)
      refine vc_yg hF rfl rfl rfl rfl rfl (by decide) _ (y_cmp rfl rfl rfl rfl (geq_t (by omega))) (fun a hF => ?_)
      refine vc_y hF rfl rfl (by decide) _ (y_pick rfl rfl rfl) (fun a hF => ?_)
      refine vc_nil ?_
      refine hK5 _ _ ?_; clear  hK5 K5
      refine vc_true hF rfl ?_
      apply wp_skip
      refine hK4 _ _ ?_; clear  hK4 K4
      apply wp_seq_k; intro K6 hK6
      apply wp_block
      apply wp_seq_k; intro K7 hK7
      refine wp_region_lit ?_
      refine vc_y hF rfl rfl (by decide) _ (y_move rfl rfl) (fun a hF => ?_)
      refine vc_op rfl (fun K hK => ws_call hF rfl (by decide) cl12_bk rfl rfl ?_)
      with_reducible refine (bk_room w z 1 (by omega) (by omega) ).mono ?_
      rintro e' w5 ⟨rfl, rfl⟩
      refine ⟨_, rfl, fun a hF => hK _ _ ?_⟩
      clear hK K
      refine vc_y hF rfl rfl (by decide) _ (y_assign rfl rfl) (fun a hF => ?_)
      refine vc_nil ?_
      refine hK7 _ _ ?_; clear  hK7 K7
      refine wp_region_lit ?_
      refine vc_y hF rfl rfl (by decide) _ (y_move rfl rfl) (fun a hF => ?_)
      refine vc_y hF rfl rfl (by decide) _ (y_move rfl rfl) (fun a hF => ?_)
      refine vc_y hF rfl rfl (by decide) _ (y_move rfl rfl) (fun a hF => ?_)
      refine vc_y hF rfl rfl (by decide) _ (y_ixSl rfl Tryd.underlying29 sz24_bk rfl rfl i rfl hlt (ad2 _ _ _)) (fun a hF => ?_)
      refine vc_y hF rfl rfl (by decide) _ (y_ldC (u := .slice q.1 q.2.2.length q.2.1) rfl hA1.q rfl hc i (by rw [List.length_map]; exact hlt) rfl (by rw [List.getElem?_map, hp]; rfl) nr24_bk) (fun a hF => ?_)
      refine vc_y hF rfl rfl (by decide) _ (y_lenSl rfl Tryd.underlying24 rfl rfl) (fun a hF => ?_)
      refine vc_op rfl (fun K hK => ws_call hF rfl (by decide) cl12_bk rfl rfl ?_)
      with_reducible refine (bk_room w (bkRoomI z 1) q.2.2.length (by omega) (by omega) ).mono ?_
      rintro e' w8 ⟨rfl, rfl⟩
      refine ⟨_, rfl, fun a hF => hK _ _ ?_⟩
      clear hK K
      refine vc_y hF rfl rfl (by decide) _ (y_assign rfl rfl) (fun a hF => ?_)
      refine vc_nil ?_
      refine hK6 _ _ ?_; clear  hK6 K6
      refine wp_region_lit ?_
      refine vc_y hF rfl rfl (by decide) _ (y_move rfl rfl) (fun a hF => ?_)
      refine vc_y hF rfl rfl (by decide) _ (y_add rfl rfl rfl (IntWalk.i64_in _ (by omega))) (fun a hF => ?_)
      refine vc_y hF rfl rfl (by decide) _ (y_assign rfl rfl) (fun a hF => ?_)
      refine vc_nil ?_
      exact ⟨i + 1, by omega, _, by omega, by omega, fun h => by rw [hsum]; omega, rfl, hF.keep [5, 0, 1] rfl, hA1⟩
    · apply wp_seq_k; intro K8 hK8
      apply wp_seq_k; intro K9 hK9
      refine wp_region_lit ?_
      refine vc_y hF rfl rfl (by decide) _ (y_move rfl rfl) (fun a hF => ?_)
      refine vc_y hF rfl rfl (by decide) _ (y_move rfl rfl) (fun a hF => ?_)
      refine vc_y hF rfl rfl (by decide) _ (y_lenSl rfl Tryd.underlying29 rfl rfl) (fun a hF => ?_)
      refine vc_y hF rfl rfl (by decide) _ (y_cmp rfl rfl rfl rfl (lss_t (by omega))) (fun a hF => ?_)
      refine vc_y hF rfl rfl (by decide) _ (y_move rfl rfl) (fun a hF => ?_)
      refine vc_yg hF rfl rfl rfl rfl rfl (by decide) _ (y_move rfl rfl) (fun a hF => ?_)
      refine vc_yg hF rfl rfl rfl rfl rfl (by decide) _ (y_cmp rfl rfl rfl rfl (geq_f (by omega))) (fun a hF => ?_)
      refine vc_y hF rfl rfl (by decide) _ (y_pick rfl rfl rfl) (fun a hF => ?_)
      refine vc_nil ?_
      refine hK9 _ _ ?_; clear  hK9 K9
      refine vc_false hF rfl ?_
      apply wp_exit
      refine hK2 _ _ ?_; clear hK8 K8 hK2 K2
      apply wp_seq_k; intro K10 hK10
      refine wp_region_lit ?_
      refine vc_y hF rfl rfl (by decide) _ (y_move rfl rfl) (fun a hF => ?_)
      refine vc_y hF rfl rfl (by decide) _ (y_assign rfl rfl) (fun a hF => ?_)
      refine vc_nil ?_
      refine hK10 _ _ ?_; clear  hK10 K10
      apply wp_ret
      refine vc_ret1 hF Tryd.results23 rfl ?_
      exact ⟨z, rfl, by omega, fun h => by omega, rfl⟩
  · obtain rfl : i = ps.length := by omega
    rw [List.take_length] at hzs
    apply wp_seq_k; intro K11 hK11
    apply wp_seq_k; intro K12 hK12
    refine wp_region_lit ?_
    refine vc_y hF rfl rfl (by decide) _ (y_move rfl rfl) (fun a hF => ?_)
    refine vc_y hF rfl rfl (by decide) _ (y_move rfl rfl) (fun a hF => ?_)
    refine vc_y hF rfl rfl (by decide) _ (y_lenSl rfl Tryd.underlying29 rfl rfl) (fun a hF => ?_)
    refine vc_y hF rfl rfl (by decide) _ (y_cmp rfl rfl rfl rfl (lss_f (by omega))) (fun a hF => ?_)
    refine vc_y hF rfl rfl (by decide) _ (y_move rfl rfl) (fun a hF => ?_)
    refine vc_skip hF rfl rfl rfl rfl rfl rfl (by decide) (fun a hF => ?_)
    refine vc_skip hF rfl rfl rfl rfl rfl rfl (by decide) (fun a hF => ?_)
    refine vc_y hF rfl rfl (by decide) _ (y_pick rfl rfl rfl) (fun a hF => ?_)
    refine vc_nil ?_
    refine hK12 _ _ ?_; clear  hK12 K12
    refine vc_false hF rfl ?_
    apply wp_exit
    refine hK2 _ _ ?_; clear hK11 K11 hK2 K2
    apply wp_seq_k; intro K13 hK13
    refine wp_region_lit ?_
    refine vc_y hF rfl rfl (by decide) _ (y_move rfl rfl) (fun a hF => ?_)
    refine vc_y hF rfl rfl (by decide) _ (y_assign rfl rfl) (fun a hF => ?_)
    refine vc_nil ?_
    refine hK13 _ _ ?_; clear  hK13 K13
    apply wp_ret
    refine vc_ret1 hF Tryd.results23 rfl ?_
    exact ⟨z, rfl, by omega, hzs, rfl⟩

set_option maxRecDepth 100000 in
set_option maxHeartbeats 1000000 in
theorem bk_same_bytes (w0 w : World) (R : List Seg) (pa pb : Option Addr) (xs ys : List (UInt8)) (ca cb : Nat) (hX : Rc w0 R pa (dc xs)) (hY : Rc w0 R pb (dc ys)) (hA : Hp w0 R w) (hn : xs.length ≤ 9223372036854775807) : Calls Tryd.prog 65 #[.slice pa xs.length ca, .slice pb ys.length cb] w fun e w' => e = .returned (.bool (decide (xs = ys))) ∧ Hp w0 R w' := by
  refine vc_enter Tryd.func65 rfl Tryd.ntmps65 (Nat.le_of_ble_eq_true rfl) (fun a hF => ?_)
  apply wp_seq_k; intro K1 hK1
  refine wp_region_lit ?_
  refine vc_y hF rfl rfl (by decide) _ (y_assign rfl rfl) (fun a hF => ?_)
  refine vc_nil ?_
  refine hK1 _ _ ?_; clear  hK1 K1
  apply wp_seq_k; intro K2 hK2
  apply wp_seq_k; intro K3 hK3
  refine wp_region_lit ?_
  refine vc_y hF rfl rfl (by decide) _ (y_move rfl rfl) (fun a hF => ?_)
  refine vc_y hF rfl rfl (by decide) _ (y_lenSl rfl Tryd.underlying24 rfl rfl) (fun a hF => ?_)
  refine vc_y hF rfl rfl (by decide) _ (y_move rfl rfl) (fun a hF => ?_)
  refine vc_y hF rfl rfl (by decide) _ (y_lenSl rfl Tryd.underlying24 rfl rfl) (fun a hF => ?_)
  refine vc_y hF rfl rfl (by decide) _ (y_cmp rfl rfl rfl rfl rfl) (fun a hF => ?_)
  refine vc_nil ?_
  refine hK3 _ _ ?_; clear  hK3 K3
  by_cases hne : (xs.length : Int) ≠ (ys.length : Int)
  · refine vc_trueB hF rfl (neq_t (by omega)) ?_
    apply wp_seq_k; intro K4 hK4
    refine wp_region_lit ?_
    refine vc_y hF rfl rfl (by decide) _ (y_assign rfl rfl) (fun a hF => ?_)
    refine vc_nil ?_
    refine hK4 _ _ ?_; clear  hK4 K4
    apply wp_ret
    simp only [Exit.then]
    refine vc_ret1 hF Tryd.results65 rfl ?_
    rw [decide_eq_false (fun e => by rw [e] at hne; exact hne rfl)]
    exact ⟨rfl, hA⟩
  · refine vc_falseB hF rfl (neq_f (by omega)) ?_
    replace hne : xs.length = ys.length := by omega
    apply wp_skip
    refine hK2 _ _ ?_; clear  hK2 K2
    apply wp_seq_k; intro K5 hK5
    apply wp_seq_k; intro K6 hK6
    refine wp_region_lit ?_
    refine vc_y hF rfl rfl (by decide) _ (y_assign rfl rfl) (fun a hF => ?_)
    refine vc_nil ?_
    refine hK6 _ _ ?_; clear  hK6 K6
    apply wp_block
    refine vc_loop (G := Nat) (fun i a x => i ≤ xs.length ∧ xs.take i = ys.take i ∧ Fr 26 [(5, .int .i64 (i : Int)), (0, .slice pa xs.length ca), (1, .slice pb ys.length cb)] a ∧ Hp w0 (R) x) (fun i => xs.length - i) 0 (⟨Nat.zero_le _, rfl, hF.keep [5, 0, 1] rfl, hA⟩) ?_
    clear hF
    rintro i a w2 ⟨hi, hE, hF, hA1⟩
    apply wp_seq_k; intro K7 hK7
    apply wp_seq_k; intro K8 hK8
    refine wp_region_lit ?_
    refine vc_y hF rfl rfl (by decide) _ (y_move rfl rfl) (fun a hF => ?_)
    refine vc_y hF rfl rfl (by decide) _ (y_move rfl rfl) (fun a hF => ?_)
    refine vc_y hF rfl rfl (by decide) _ (y_lenSl rfl Tryd.underlying24 rfl rfl) (fun a hF => ?_)
    refine vc_y hF rfl rfl (by decide) _ (y_cmp rfl rfl rfl rfl rfl) (fun a hF => ?_)
    refine vc_nil ?_
    refine hK8 _ _ ?_; clear  hK8 K8
    by_cases hlt : i < xs.length
    · refine vc_trueB hF rfl (lss_t (by omega)) ?_
      obtain ⟨q, hp⟩ : ∃ q, xs[i]? = some q := ⟨_, List.getElem?_eq_getElem hlt⟩
      obtain ⟨u, hu⟩ : ∃ u, ys[i]? = some u := ⟨_, List.getElem?_eq_getElem (by omega)⟩
      have hT : xs.take (i + 1) = xs.take i ++ [q] ∧ ys.take (i + 1) = ys.take i ++ [u] := ⟨by rw [List.take_add_one, hp]; rfl, by rw [List.take_add_one, hu]; rfl⟩
      obtain ⟨b1, o0, rfl, hc0⟩ := hX.ne (i := i) (by rw [dc_length]; omega)
      obtain ⟨b2, o1, rfl, hc1⟩ := hY.ne (i := i) (by rw [dc_length]; omega)
      by_cases hqu : q = u
      · apply wp_skip
        refine hK7 _ _ ?_; clear  hK7 K7
        apply wp_seq_k; intro K9 hK9
        apply wp_block
        apply wp_seq_k; intro K10 hK10
        refine wp_region_plan 8 [8] [0,1,2,3,4,5,6,7,8] (fun x => Hq w0 (R) x) (by kernel_rfl) (by kernel_rfl) (Hq.drew (Hp.qp [] R [] hA1)) ?_
        have hA3 := Hl.drew hA1
        refine vp_y hF rfl rfl rfl rfl (by decide) _ (fun x hx => y_move rfl rfl) (fun a hF => ?_)
        refine vp_y hF rfl rfl rfl rfl (by decide) _ (fun x hx => y_move rfl rfl) (fun a hF => ?_)
        refine vp_y hF rfl rfl rfl rfl (by decide) _ (fun x hx => y_ixSl rfl Tryd.underlying24 sz5_bk rfl rfl i rfl hlt (ad2 _ _ _)) (fun a hF => ?_)
        refine vp_y hF rfl rfl rfl rfl (by decide) _ (fun x hx => y_ldC (u := .int .u8 (q.toNat : Int)) rfl hx rfl hc0 i (by rw [dc_length]; omega) rfl (by unfold dc; rw [List.getElem?_map, hp]; rfl) nr5_bk) (fun a hF => ?_)
        refine vp_y hF rfl rfl rfl rfl (by decide) _ (fun x hx => y_move rfl rfl) (fun a hF => ?_)
        refine vp_y hF rfl rfl rfl rfl (by decide) _ (fun x hx => y_move rfl rfl) (fun a hF => ?_)
        refine vp_y hF rfl rfl rfl rfl (by decide) _ (fun x hx => y_ixSl rfl Tryd.underlying24 sz5_bk rfl rfl i rfl (by omega) (ad2 _ _ _)) (fun a hF => ?_)
        refine vp_y hF rfl rfl rfl rfl (by decide) _ (fun x hx => y_ldC (u := .int .u8 (u.toNat : Int)) rfl hx rfl hc1 i (by rw [dc_length]; omega) rfl (by unfold dc; rw [List.getElem?_map, hu]; rfl) nr5_bk) (fun a hF => ?_)
        refine vp_ly hF rfl rfl rfl rfl (by decide) _ (y_cmp rfl rfl rfl rfl (neq_f (by rw [hqu]))) (fun h => absurd h (by decide)) (fun a hF => ?_)
        refine plan_end ?_
        refine hK10 _ _ ?_; clear  hK10 K10
        refine vc_false hF rfl ?_
        apply wp_skip
        refine hK9 _ _ ?_; clear  hK9 K9
        refine wp_region_lit ?_
        refine vc_y hF rfl rfl (by decide) _ (y_move rfl rfl) (fun a hF => ?_)
        refine vc_y hF rfl rfl (by decide) _ (y_add rfl rfl rfl (IntWalk.i64_in _ (by omega))) (fun a hF => ?_)
        refine vc_y hF rfl rfl (by decide) _ (y_assign rfl rfl) (fun a hF => ?_)
        refine vc_nil ?_
        exact ⟨i + 1, by omega, by omega, by rw [hT.1, hT.2, hE, hqu], hF.keep [5, 0, 1] rfl, hA3⟩
      · apply wp_skip
        refine hK7 _ _ ?_; clear  hK7 K7
        apply wp_seq_k; intro K11 hK11
        apply wp_block
        apply wp_seq_k; intro K12 hK12
        refine wp_region_plan 8 [8] [0,1,2,3,4,5,6,7,8] (fun x => Hq w0 (R) x) (by kernel_rfl) (by kernel_rfl) (Hq.drew (Hp.qp [] R [] hA1)) ?_
        have hA4 := Hl.drew hA1
        refine vp_y hF rfl rfl rfl rfl (by decide) _ (fun x hx => y_move rfl rfl) (fun a hF => ?_)
        refine vp_y hF rfl rfl rfl rfl (by decide) _ (fun x hx => y_move rfl rfl) (fun a hF => ?_)
        refine vp_y hF rfl rfl rfl rfl (by decide) _ (fun x hx => y_ixSl rfl Tryd.underlying24 sz5_bk rfl rfl i rfl hlt (ad2 _ _ _)) (fun a hF => ?_)
        refine vp_y hF rfl rfl rfl rfl (by decide) _ (fun x hx => y_ldC (u := .int .u8 (q.toNat : Int)) rfl hx rfl hc0 i (by rw [dc_length]; omega) rfl (by unfold dc; rw [List.getElem?_map, hp]; rfl) nr5_bk) (fun a hF => ?_)
        refine vp_y hF rfl rfl rfl rfl (by decide) _ (fun x hx => y_move rfl rfl) (fun a hF => ?_)
        refine vp_y hF rfl rfl rfl rfl (by decide) _ (fun x hx => y_move rfl rfl) (fun a hF => ?_)
        refine vp_y hF rfl rfl rfl rfl (by decide) _ (fun x hx => y_ixSl rfl Tryd.underlying24 sz5_bk rfl rfl i rfl (by omega) (ad2 _ _ _)) (fun a hF => ?_)
        refine vp_y hF rfl rfl rfl rfl (by decide) _ (fun x hx => y_ldC (u := .int .u8 (u.toNat : Int)) rfl hx rfl hc1 i (by rw [dc_length]; omega) rfl (by unfold dc; rw [List.getElem?_map, hu]; rfl) nr5_bk) (fun a hF => ?_)
        refine vp_ly hF rfl rfl rfl rfl (by decide) _ (y_cmp rfl rfl rfl rfl (neq_t (fun h => hqu (UInt8.toNat_inj.1 (Int.ofNat.inj h))))) (fun h => absurd h (by decide)) (fun a hF => ?_)
        refine plan_end ?_
        refine hK12 _ _ ?_; clear  hK12 K12
        refine vc_true hF rfl ?_
        apply wp_seq_k; intro K13 hK13
        refine wp_region_lit ?_
        refine vc_y hF rfl rfl (by decide) _ (y_assign rfl rfl) (fun a hF => ?_)
        refine vc_nil ?_
        refine hK13 _ _ ?_; clear  hK13 K13
        apply wp_ret
        simp only [Exit.then, Exit.inBlock]
        refine vc_ret1 hF Tryd.results65 rfl ?_
        rw [decide_eq_false (fun e => by rw [e, hu] at hp; exact hqu (Option.some.inj hp).symm)]
        exact ⟨rfl, hA4⟩
    · refine vc_falseB hF rfl (lss_f (by omega)) ?_
      obtain rfl : i = xs.length := by omega
      rw [List.take_length, hne, List.take_length] at hE
      apply wp_exit
      refine hK5 _ _ ?_; clear hK7 K7 hK5 K5
      apply wp_seq_k; intro K14 hK14
      refine wp_region_lit ?_
      refine vc_y hF rfl rfl (by decide) _ (y_assign rfl rfl) (fun a hF => ?_)
      refine vc_nil ?_
      refine hK14 _ _ ?_; clear  hK14 K14
      apply wp_ret
      refine vc_ret1 hF Tryd.results65 rfl ?_
      rw [decide_eq_true hE]
      exact ⟨rfl, hA1⟩
end Go.Proofs.YtppmhlkonemebaaDoor
