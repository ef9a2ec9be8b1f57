/- The reference's Empties and Empty. -/
import Derived.Test.YtpomngkcfbnjoaaDoorTab7
namespace Go.Proofs.YtpomngkcfbnjoaaDoor
open Go.RowKit Go.Dk

theorem digs_one (f : Nat → List UInt8) : digs f 1 = dc (f 0) := by simp [digs]
theorem rw36_t8 : isRow Tryd.prog 23 32 = true := by kernel_rfl
theorem cl45_t8 : CallsTo Tryd.prog 78 := ⟨_, Tryd.func78, by kernel_rfl, by kernel_rfl⟩
theorem cl52_t8 : CallsTo Tryd.prog 77 := ⟨_, Tryd.func77, by kernel_rfl, by kernel_rfl⟩
theorem cl74_t8 : CallsTo Tryd.prog 47 := ⟨_, Tryd.func47, by kernel_rfl, by kernel_rfl⟩

set_option maxRecDepth 100000 in
set_option maxHeartbeats 1000000 in
theorem empties_any (w : World) (width : Int) :
    Calls Tryd.prog 47 #[.int .i64 width] w fun e w' => ∃ v X, e = .returned v ∧ Own w 23 32 X v 257 (digs (emptyL width) 257) ∧ At w X w' := by
  have hA0 := At.refl w
  have hdl := emptyL_length width
  refine vc_enter Tryd.func47 rfl Tryd.ntmps47 (Nat.le_of_ble_eq_true rfl) (fun a hF => ?_)
  apply wp_seq_k; intro K1 hK1
  refine wp_region_lit ?_
  refine vc_y hF rfl rfl (by decide) _ (y_assign rfl rfl) (fun a hF => ?_)
  refine vc_nil ?_
  refine hK1 _ _ ?_; clear  hK1 K1
  apply wp_seq_k; intro K2 hK2
  refine wp_region_lit ?_
  refine vc_y hF rfl rfl (by decide) _ (y_move rfl rfl) (fun a hF => ?_)
  refine vc_op rfl (fun K hK => ws_call hF rfl (by decide) cl52_t8 rfl rfl ?_)
  with_reducible refine (rof_all w width 5 5 rfl none [] 0 0 rfl (Pieces.nil _) (by decide) (by decide)).mono ?_
  rintro e' w1 ⟨rfl, hA1⟩
  refine ⟨_, rfl, fun a hF => hK _ _ ?_⟩; clear hK K
  rw [show ofL width 5 (flat []) = emptyL width 0 from rfl] at hF
  refine vc_op rfl (fun K hK => ws_bsd hF rfl (by decide) rfl hA1 rfl (t7_build (hdl 0)) (fun g w2 a hg hF hA2 => hK _ _ ?_))
  clear hK K
  have hO2 : Own w 23 32 [(g, 23, dc (emptyL width 0))] (.slice (some ⟨g, 0, none⟩) 1 1) 1 (digs (emptyL width) 1) := ⟨by rw [digs_length hdl], .inr ⟨g, 1, [], rfl, Nat.le_refl _, Nat.le_trans hA1.size hg, rfl, by rw [digs_one, List.append_nil]⟩⟩
  refine vc_y hF rfl rfl (by decide) _ (y_assign rfl rfl) (fun a hF => ?_)
  refine vc_nil ?_
  refine hK2 _ _ ?_; clear  hK2 K2
  apply wp_seq_k; intro K3 hK3
  apply wp_seq_k; intro K4 hK4
  refine wp_region_lit ?_
  refine vc_y hF rfl rfl (by decide) _ (y_assign rfl rfl) (fun a hF => ?_)
  refine vc_nil ?_
  refine hK4 _ _ ?_; clear  hK4 K4
  apply wp_block
  refine vc_loop (G := Nat) (fun j a x => 1 ≤ j ∧ j ≤ 257 ∧ ∃ (v : Value) (X : List Row), Fr 28 [(4, .int .i64 (j : Int)), (0, .int .i64 width), (3, v)] a ∧ Own w 23 32 X v j (digs (emptyL width) j) ∧ At w X x) (fun j => 257 - j) 1 ⟨Nat.le_refl _, by decide, _, _, hF.keep [4, 0, 3] rfl, hO2, hA2⟩ ?_
  clear hF
  rintro j a wr ⟨hj1, hj, v, X, hF, hO, hAr⟩
  by_cases hlt : j ≤ 256
  · obtain ⟨g5, c5, Z5, rfl, hc5, hg5, rfl⟩ := own_row hO hj1
    obtain ⟨k, rfl⟩ : ∃ k, j = k + 1 := ⟨j - 1, by omega⟩
    apply wp_seq_k; intro K5 hK5
    apply wp_seq_k; intro K6 hK6
    refine wp_region_lit ?_
    refine vc_y hF rfl rfl (by decide) _ (y_move rfl rfl) (fun a hF => ?_)
    refine vc_y hF rfl rfl (by decide) _ (y_cmp rfl rfl rfl rfl rfl) (fun a hF => ?_)
    refine vc_nil ?_
    refine hK6 _ _ ?_; clear  hK6 K6
    refine vc_trueB hF rfl (leq_t (by omega)) ?_
    apply wp_skip
    refine hK5 _ _ ?_; clear  hK5 K5
    apply wp_seq_k; intro K7 hK7
    apply wp_block
    refine wp_region_plan 14 [12,13,14,15] [0,1,2,3,4,5,6,7,8,9,10,11,12,13,14,15] (fun x => At w [(g5, 23, digs (emptyL width) (k + 1) ++ Z5)] x) (by kernel_rfl) (by kernel_rfl) (hAr.drew) ?_
    refine vp_y hF rfl rfl rfl rfl (by decide) _ (fun x hx => y_move rfl rfl) (fun a hF => ?_)
    refine vp_y hF rfl rfl rfl rfl (by decide) _ (fun x hx => y_move rfl rfl) (fun a hF => ?_)
    refine vp_y hF rfl rfl rfl rfl (by decide) _ (fun x hx => y_move rfl rfl) (fun a hF => ?_)
    refine vp_y hF rfl rfl rfl rfl (by decide) _ (fun x hx => y_move rfl rfl) (fun a hF => ?_)
    refine vp_y hF rfl rfl rfl rfl (by decide) _ (fun x hx => y_sub rfl rfl rfl (show IntKind.i64.wrap (((k + 1 : Nat) : Int) - 1) = (k : Int) by rw [IntWalk.i64_in _ (by omega)]; omega)) (fun a hF => ?_)
    refine vp_y hF rfl rfl rfl rfl (by decide) _ (fun x hx => y_ixSl rfl Tryd.underlying26 size36 rfl rfl k rfl (by omega) (t7_ad _ _)) (fun a hF => ?_)
    refine vp_y hF rfl rfl rfl rfl (by decide) _ (fun x hx => y_loadRow rfl hx rfl 0 rfl rw36_t8 (by rw [List.length_append, digs_length hdl]; omega) (new := dc (emptyL width k)) (digs_at hdl _ (k + 1) k (by omega))) (fun a hF => ?_)
    refine vp_y hF rfl rfl rfl rfl (by decide) _ (fun x hx => y_move rfl rfl) (fun a hF => ?_)
    refine vp_y hF rfl rfl rfl rfl (by decide) _ (fun x hx => y_move rfl rfl) (fun a hF => ?_)
    refine vp_y hF rfl rfl rfl rfl (by decide) _ (fun x hx => y_sub rfl rfl rfl (show IntKind.i64.wrap (((k + 1 : Nat) : Int) - 1) = (k : Int) by rw [IntWalk.i64_in _ (by omega)]; omega)) (fun a hF => ?_)
    refine vp_y hF rfl rfl rfl rfl (by decide) _ (fun x hx => y_ixSl rfl Tryd.underlying26 size36 rfl rfl k rfl (by omega) (t7_ad _ _)) (fun a hF => ?_)
    refine vp_y hF rfl rfl rfl rfl (by decide) _ (fun x hx => y_loadRow rfl hx rfl 0 rfl rw36_t8 (by rw [List.length_append, digs_length hdl]; omega) (new := dc (emptyL width k)) (digs_at hdl _ (k + 1) k (by omega))) (fun a hF => ?_)
    refine vp_l rfl rfl rfl (fun K hK => ws_call hF rfl (by decide) cl45_t8 rfl rfl ?_)
    with_reducible refine (rbranch_any _ width _ _ (hdl k) (hdl k)).mono ?_
    rintro e' w6 ⟨rfl, hc6⟩
    refine ⟨_, rfl, fun a hF => hK _ _ (fun _ => hAr.drew.then0 hc6) ?_⟩; clear hK K
    have hA6 := hAr.drew.then0 hc6
    rw [show ofL width 4 (emptyL width k ++ emptyL width k) = emptyL width (k + 1) from rfl] at hF
    refine vp_l rfl rfl rfl (fun K hK => ws_bsd hF rfl (by decide) rfl hA6 rfl (t7_build (hdl (k + 1))) (fun g7 w7 a hg7 hF hA7 => hK _ _ (fun _ => hA7.drop (.cons _ (.refl _)) (fun r hr hlt => by rcases List.mem_cons.1 hr with e | h; (subst e; have := hA6.size; simp only at hlt; omega); exact h)) ?_))
    clear hK K
    refine vp_l rfl rfl rfl (fun K hK => ws_own hF rfl (by decide) rfl [(g7, 23, dc (emptyL width (k + 1)))] (X := [(g5, 23, digs (emptyL width) (k + 1) ++ Z5)]) hA7 hO Tryd.underlying26 t7_elem rfl rfl (t7_src (hdl (k + 1)) hA7 (k := 0) rfl) (by omega) (by decide) (fun v8 X8 w8 a hO8 hF hA8 => hK _ _ (fun h => absurd h (by decide)) ?_))
    clear hK K
    rw [← digs_succ] at hO8
    have hA8e : At w X8 w8 := hA8.drop (List.sublist_append_right _ _) (fun r hr hlt => by
      rcases List.mem_append.1 hr with hr | hr
      · simp only [List.mem_cons, List.not_mem_nil, or_false] at hr
        subst hr
        have := hA6.size
        simp only at hlt
        omega
      · exact hr)
    refine vp_ly hF rfl rfl rfl rfl (by decide) _ (y_assign rfl rfl) (fun h => absurd h (by decide)) (fun a hF => ?_)
    refine plan_end ?_
    refine hK7 _ _ ?_; clear  hK7 K7
    refine wp_region_lit ?_
    refine vc_y hF rfl rfl (by decide) _ (y_move rfl rfl) (fun a hF => ?_)
    refine vc_y hF rfl rfl (by decide) _ (y_add rfl rfl rfl (show IntKind.i64.wrap (((k + 1 : Nat) : Int) + 1) = ((k + 1 + 1 : Nat) : Int) by rw [IntWalk.i64_in _ (by omega)]; omega)) (fun a hF => ?_)
    refine vc_y hF rfl rfl (by decide) _ (y_assign rfl rfl) (fun a hF => ?_)
    refine vc_nil ?_
    exact ⟨k + 1 + 1, by omega, by omega, by omega, v8, X8, hF.keep [4, 0, 3] rfl, hO8, hA8e⟩
  · obtain rfl : j = 257 := by omega
    apply wp_seq_k; intro K8 hK8
    apply wp_seq_k; intro K9 hK9
    refine wp_region_lit ?_
    refine vc_y hF rfl rfl (by decide) _ (y_move rfl rfl) (fun a hF => ?_)
    refine vc_y hF rfl rfl (by decide) _ (y_cmp rfl rfl rfl rfl rfl) (fun a hF => ?_)
    refine vc_nil ?_
    refine hK9 _ _ ?_; clear  hK9 K9
    refine vc_falseB hF rfl (leq_f (by omega)) ?_
    apply wp_exit
    refine hK3 _ _ ?_; clear hK8 K8 hK3 K3
    apply wp_seq_k; intro K10 hK10
    refine wp_region_lit ?_
    refine vc_y hF rfl rfl (by decide) _ (y_move rfl rfl) (fun a hF => ?_)
    refine vc_y hF rfl rfl (by decide) _ (y_assign rfl rfl) (fun a hF => ?_)
    refine vc_nil ?_
    refine hK10 _ _ ?_; clear  hK10 K10
    apply wp_ret
    refine vc_ret1 hF Tryd.results47 rfl ?_
    exact ⟨v, X, rfl, hO, hAr⟩

set_option maxRecDepth 100000 in
set_option maxHeartbeats 1000000 in
theorem rempty_any (w : World) (width h : Int) :
    Calls Tryd.prog 19 #[.int .i64 width, .int .i64 h] w fun e w' => e = .returned (.agg (dc (emptyL width (min (max h 0) 256).toNat)).toArray) ∧ At w [] w' := by
  have hA0 := At.refl w
  have hdl := emptyL_length width
  obtain ⟨k, hk⟩ : ∃ k, k = (min (max h 0) 256).toNat := ⟨_, rfl⟩
  rw [← hk]
  have hk2 : k ≤ 256 := by omega
  by_cases h0 : h < 0
  · refine vc_enter Tryd.func19 rfl Tryd.ntmps19 (Nat.le_of_ble_eq_true rfl) (fun a hF => ?_)
    apply wp_seq_k; intro K1 hK1
    refine wp_region_lit ?_
    refine vc_op rfl (fun K hK => ws_alloc hF rfl (by decide) rfl hA0 zero36 (fun b4 w1 a hb4 hF hA1 => hK _ _ ?_))
    clear hK K
    refine vc_nil ?_
    refine hK1 _ _ ?_; clear  hK1 K1
    apply wp_seq_k; intro K2 hK2
    apply wp_seq_k; intro K3 hK3
    refine wp_region_lit ?_
    refine vc_y hF rfl rfl (by decide) _ (y_move rfl rfl) (fun a hF => ?_)
    refine vc_y hF rfl rfl (by decide) _ (y_cmp rfl rfl rfl rfl rfl) (fun a hF => ?_)
    refine vc_nil ?_
    refine hK3 _ _ ?_; clear  hK3 K3
    refine vc_trueB hF rfl (lss_t (by omega)) ?_
    refine wp_region_lit ?_
    refine vc_y hF rfl rfl (by decide) _ (y_assign rfl rfl) (fun a hF => ?_)
    refine vc_nil ?_
    refine hK2 _ _ ?_; clear  hK2 K2
    apply wp_seq_k; intro K4 hK4
    apply wp_seq_k; intro K5 hK5
    refine wp_region_lit ?_
    refine vc_y hF rfl rfl (by decide) _ (y_move rfl rfl) (fun a hF => ?_)
    refine vc_y hF rfl rfl (by decide) _ (y_cmp rfl rfl rfl rfl rfl) (fun a hF => ?_)
    refine vc_nil ?_
    refine hK5 _ _ ?_; clear  hK5 K5
    refine vc_falseB hF rfl (gtr_f (by omega)) ?_
    apply wp_skip
    refine hK4 _ _ ?_; clear  hK4 K4
    apply wp_seq_k; intro K6 hK6
    refine wp_region_lit ?_
    refine vc_y hF rfl rfl (by decide) _ (y_move rfl rfl) (fun a hF => ?_)
    refine vc_op rfl (fun K hK => ws_call hF rfl (by decide) cl74_t8 rfl rfl ?_)
    with_reducible refine (empties_any w1 width).mono ?_
    rintro e' w2 ⟨v2, X, rfl, hO, hc2⟩
    refine ⟨_, rfl, fun a hF => hK _ _ ?_⟩; clear hK K
    have hA2 : At w (X ++ [(b4, 23, dc (List.replicate 32 0))]) w2 := hA1.thenNew hc2 hO.new
    obtain ⟨g5, c5, Z5, rfl, hc5, hg5, rfl⟩ := own_row hO (by decide)
    have hA2 : At w [(g5, 23, digs (emptyL width) 257 ++ Z5), (b4, 23, dc (List.replicate 32 0))] w2 := hA2
    refine vc_y hF rfl rfl (by decide) _ (y_move rfl rfl) (fun a hF => ?_)
    refine vc_y hF rfl rfl (by decide) _ (y_ixSl rfl Tryd.underlying26 size36 rfl rfl k (by omega) (by omega) (t7_ad _ _)) (fun a hF => ?_)
    refine vc_y hF rfl rfl (by decide) _ (y_loadRow rfl hA2 rfl 0 rfl rw36_t8 (by rw [List.length_append, digs_length hdl]; omega) (new := dc (emptyL width k)) (digs_at hdl _ 257 k (by omega))) (fun a hF => ?_)
    refine vc_op rfl (fun K hK => ws_storeAll hF rfl rfl hA2 rfl rfl 1 rfl (tb_z (hdl k)) (dc_one _) tb_s (fun w3 hA3 => hK _ _ ?_))
    clear hK K
    refine vc_nil ?_
    refine hK6 _ _ ?_; clear  hK6 K6
    apply wp_ret
    refine vc_retc hF Tryd.results19 hA3 rfl 1 rfl (tb_row36 (hdl k)) ?_
    exact ⟨rfl, hA3.clear (cons_new (Nat.le_trans hA1.size hg5) (one_new hb4))⟩
  · by_cases h1 : 256 < h
    · refine vc_enter Tryd.func19 rfl Tryd.ntmps19 (Nat.le_of_ble_eq_true rfl) (fun a hF => ?_)
      apply wp_seq_k; intro K7 hK7
      refine wp_region_lit ?_
      refine vc_op rfl (fun K hK => ws_alloc hF rfl (by decide) rfl hA0 zero36 (fun b4 w1 a hb4 hF hA1 => hK _ _ ?_))
      clear hK K
      refine vc_nil ?_
      refine hK7 _ _ ?_; clear  hK7 K7
      apply wp_seq_k; intro K8 hK8
      apply wp_seq_k; intro K9 hK9
      refine wp_region_lit ?_
      refine vc_y hF rfl rfl (by decide) _ (y_move rfl rfl) (fun a hF => ?_)
      refine vc_y hF rfl rfl (by decide) _ (y_cmp rfl rfl rfl rfl rfl) (fun a hF => ?_)
      refine vc_nil ?_
      refine hK9 _ _ ?_; clear  hK9 K9
      refine vc_falseB hF rfl (lss_f (by omega)) ?_
      apply wp_skip
      refine hK8 _ _ ?_; clear  hK8 K8
      apply wp_seq_k; intro K10 hK10
      apply wp_seq_k; intro K11 hK11
      refine wp_region_lit ?_
      refine vc_y hF rfl rfl (by decide) _ (y_move rfl rfl) (fun a hF => ?_)
      refine vc_y hF rfl rfl (by decide) _ (y_cmp rfl rfl rfl rfl rfl) (fun a hF => ?_)
      refine vc_nil ?_
      refine hK11 _ _ ?_; clear  hK11 K11
      refine vc_trueB hF rfl (gtr_t (by omega)) ?_
      refine wp_region_lit ?_
      refine vc_y hF rfl rfl (by decide) _ (y_assign rfl rfl) (fun a hF => ?_)
      refine vc_nil ?_
      refine hK10 _ _ ?_; clear  hK10 K10
      apply wp_seq_k; intro K12 hK12
      refine wp_region_lit ?_
      refine vc_y hF rfl rfl (by decide) _ (y_move rfl rfl) (fun a hF => ?_)
      refine vc_op rfl (fun K hK => ws_call hF rfl (by decide) cl74_t8 rfl rfl ?_)
      with_reducible refine (empties_any w1 width).mono ?_
      rintro e' w2 ⟨v2, X, rfl, hO, hc2⟩
      refine ⟨_, rfl, fun a hF => hK _ _ ?_⟩; clear hK K
      have hA2 : At w (X ++ [(b4, 23, dc (List.replicate 32 0))]) w2 := hA1.thenNew hc2 hO.new
      obtain ⟨g5, c5, Z5, rfl, hc5, hg5, rfl⟩ := own_row hO (by decide)
      have hA2 : At w [(g5, 23, digs (emptyL width) 257 ++ Z5), (b4, 23, dc (List.replicate 32 0))] w2 := hA2
      refine vc_y hF rfl rfl (by decide) _ (y_move rfl rfl) (fun a hF => ?_)
      refine vc_y hF rfl rfl (by decide) _ (y_ixSl rfl Tryd.underlying26 size36 rfl rfl k (by omega) (by omega) (t7_ad _ _)) (fun a hF => ?_)
      refine vc_y hF rfl rfl (by decide) _ (y_loadRow rfl hA2 rfl 0 rfl rw36_t8 (by rw [List.length_append, digs_length hdl]; omega) (new := dc (emptyL width k)) (digs_at hdl _ 257 k (by omega))) (fun a hF => ?_)
      refine vc_op rfl (fun K hK => ws_storeAll hF rfl rfl hA2 rfl rfl 1 rfl (tb_z (hdl k)) (dc_one _) tb_s (fun w3 hA3 => hK _ _ ?_))
      clear hK K
      refine vc_nil ?_
      refine hK12 _ _ ?_; clear  hK12 K12
      apply wp_ret
      refine vc_retc hF Tryd.results19 hA3 rfl 1 rfl (tb_row36 (hdl k)) ?_
      exact ⟨rfl, hA3.clear (cons_new (Nat.le_trans hA1.size hg5) (one_new hb4))⟩
    · refine vc_enter Tryd.func19 rfl Tryd.ntmps19 (Nat.le_of_ble_eq_true rfl) (fun a hF => ?_)
      apply wp_seq_k; intro K13 hK13
      refine wp_region_lit ?_
      refine vc_op rfl (fun K hK => ws_alloc hF rfl (by decide) rfl hA0 zero36 (fun b4 w1 a hb4 hF hA1 => hK _ _ ?_))
      clear hK K
      refine vc_nil ?_
      refine hK13 _ _ ?_; clear  hK13 K13
      apply wp_seq_k; intro K14 hK14
      apply wp_seq_k; intro K15 hK15
      refine wp_region_lit ?_
      refine vc_y hF rfl rfl (by decide) _ (y_move rfl rfl) (fun a hF => ?_)
      refine vc_y hF rfl rfl (by decide) _ (y_cmp rfl rfl rfl rfl rfl) (fun a hF => ?_)
      refine vc_nil ?_
      refine hK15 _ _ ?_; clear  hK15 K15
      refine vc_falseB hF rfl (lss_f (by omega)) ?_
      apply wp_skip
      refine hK14 _ _ ?_; clear  hK14 K14
      apply wp_seq_k; intro K16 hK16
      apply wp_seq_k; intro K17 hK17
      refine wp_region_lit ?_
      refine vc_y hF rfl rfl (by decide) _ (y_move rfl rfl) (fun a hF => ?_)
      refine vc_y hF rfl rfl (by decide) _ (y_cmp rfl rfl rfl rfl rfl) (fun a hF => ?_)
      refine vc_nil ?_
      refine hK17 _ _ ?_; clear  hK17 K17
      refine vc_falseB hF rfl (gtr_f (by omega)) ?_
      apply wp_skip
      refine hK16 _ _ ?_; clear  hK16 K16
      apply wp_seq_k; intro K18 hK18
      refine wp_region_lit ?_
      refine vc_y hF rfl rfl (by decide) _ (y_move rfl rfl) (fun a hF => ?_)
      refine vc_op rfl (fun K hK => ws_call hF rfl (by decide) cl74_t8 rfl rfl ?_)
      with_reducible refine (empties_any w1 width).mono ?_
      rintro e' w2 ⟨v2, X, rfl, hO, hc2⟩
      refine ⟨_, rfl, fun a hF => hK _ _ ?_⟩; clear hK K
      have hA2 : At w (X ++ [(b4, 23, dc (List.replicate 32 0))]) w2 := hA1.thenNew hc2 hO.new
      obtain ⟨g5, c5, Z5, rfl, hc5, hg5, rfl⟩ := own_row hO (by decide)
      have hA2 : At w [(g5, 23, digs (emptyL width) 257 ++ Z5), (b4, 23, dc (List.replicate 32 0))] w2 := hA2
      refine vc_y hF rfl rfl (by decide) _ (y_move rfl rfl) (fun a hF => ?_)
      refine vc_y hF rfl rfl (by decide) _ (y_ixSl rfl Tryd.underlying26 size36 rfl rfl k (by omega) (by omega) (t7_ad _ _)) (fun a hF => ?_)
      refine vc_y hF rfl rfl (by decide) _ (y_loadRow rfl hA2 rfl 0 rfl rw36_t8 (by rw [List.length_append, digs_length hdl]; omega) (new := dc (emptyL width k)) (digs_at hdl _ 257 k (by omega))) (fun a hF => ?_)
      refine vc_op rfl (fun K hK => ws_storeAll hF rfl rfl hA2 rfl rfl 1 rfl (tb_z (hdl k)) (dc_one _) tb_s (fun w3 hA3 => hK _ _ ?_))
      clear hK K
      refine vc_nil ?_
      refine hK18 _ _ ?_; clear  hK18 K18
      apply wp_ret
      refine vc_retc hF Tryd.results19 hA3 rfl 1 rfl (tb_row36 (hdl k)) ?_
      exact ⟨rfl, hA3.clear (cons_new (Nat.le_trans hA1.size hg5) (one_new hb4))⟩

end Go.Proofs.YtpomngkcfbnjoaaDoor
