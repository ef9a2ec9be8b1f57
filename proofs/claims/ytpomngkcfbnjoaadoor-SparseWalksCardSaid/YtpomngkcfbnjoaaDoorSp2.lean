/- The rows of a sparse proof. -/
import Derived.Test.YtpomngkcfbnjoaaDoorSp1
import Derived.Test.YtpomngkcfbnjoaaDoorTt
namespace Go.Proofs.YtpomngkcfbnjoaaDoor
open Go.RowKit Go.Dk

theorem rw23_s2 : isRow Tryd.prog 23 32 = true := by kernel_rfl
theorem cl95_s2 : CallsTo Tryd.prog 95 := ⟨_, Tryd.func95, by kernel_rfl, by kernel_rfl⟩
theorem cl96_s2 : CallsTo Tryd.prog 96 := ⟨_, Tryd.func96, by kernel_rfl, by kernel_rfl⟩

/-- the digests that stand in a slice, one of them read -/
theorem digs_rd (f : Nat → List UInt8) (n i : Nat) (hf : ∀ i, i < n → (f i).length = 32) (hi : i < n) : ((digs f n).drop (i * 32)).take 32 = dc (f i) ∧ i * 32 + 32 ≤ (digs f n).length := by
  rw [digs_map]
  exact cel_at (sz := 32) (fun x hx => by obtain ⟨j, hj, rfl⟩ := List.mem_map.1 hx; rw [dc_length]; exact hf j (List.mem_range.1 hj)) (by rw [List.getElem?_map, List.getElem?_range hi]; rfl)
theorem digs_len (f : Nat → List UInt8) (n : Nat) (hf : ∀ i, i < n → (f i).length = 32) : (digs f n).length = n * 32 := by
  rw [digs_map, cel_len (sz := 32) (fun x hx => by obtain ⟨i, hi, rfl⟩ := List.mem_map.1 hx; rw [dc_length]; exact hf i (List.mem_range.1 hi)), List.length_map, List.length_range]
set_option maxRecDepth 100000 in
set_option maxHeartbeats 2000000 in
theorem sp_empties (w0 w : World) (R : List Seg) (width : Int) (hT : Tab w0) (hA : Hp w0 R w) : Calls Tryd.prog 74 #[.int .i64 width] w fun e w' => ∃ v X, e = .returned v ∧ Buf 23 32 X v 257 (digs (emptyL width) 257) ∧ Hp w0 (X :: R) w' := by
  have hdl := emptyL_length width
  refine vc_enter Tryd.func74 rfl Tryd.ntmps74 (Nat.le_of_ble_eq_true rfl) (fun a hF => ?_)
  apply wp_seq_k; intro K1 hK1
  refine wp_region_lit ?_
  refine vc_y hF rfl rfl (by decide) _ (y_assign rfl rfl) (fun a hF => ?_)
  refine vc_nil ?_
  refine hK1 _ _ ?_; clear  hK1 K1
  apply wp_seq_k; intro K2 hK2
  refine wp_region_lit ?_
  refine vc_y hF rfl rfl (by decide) _ (y_move rfl rfl) (fun a hF => ?_)
  refine vc_op rfl (fun K hK => ws_call hF rfl (by decide) cl95_s2 rfl rfl ?_)
  with_reducible refine (tt_empty w0 _ R width 0 hT hA ).mono ?_
  rintro e' w1 ⟨rfl, hA2⟩
  refine ⟨_, rfl, fun a hF => hK _ _ ?_⟩
  clear hK K
  replace hA2 : Hp w0 (R) w1 := hA2
  rw [show (min (max (0 : Int) 0) 256).toNat = 0 from rfl] at hF
  refine vc_op rfl (fun K hK => hs_bs (qs := #[(0, .agg (dc (emptyL width 0)).toArray)]) (cells := (dc (emptyL width 0)).toArray) hF rfl (by decide) rfl hA2 rfl (t7_build (hdl 0)) (fun b3 w4 a hb3 hF hA5 => hK _ _ ?_))
  clear hK K
  replace hA5 : Hp w0 ([row b3 23 (dc (emptyL width 0))] :: R) w4 := hA5
  refine vc_y hF rfl rfl (by decide) _ (y_assign rfl rfl) (fun a hF => ?_)
  refine vc_nil ?_
  refine hK2 _ _ ?_; clear  hK2 K2
  apply wp_seq_k; intro K3 hK3
  apply wp_seq_k; intro K4 hK4
  refine wp_region_lit ?_
  refine vc_y hF rfl rfl (by decide) _ (y_move rfl rfl) (fun a hF => ?_)
  refine vc_nil ?_
  refine hK4 _ _ ?_; clear  hK4 K4
  apply wp_block
  have hE0 : Buf 23 32 [row b3 23 (dc (emptyL width 0))] (.slice (some ⟨b3, 0, none⟩) 1 1) 1 (digs (emptyL width) 1) := by rw [digs_one]; exact Buf.full (by rw [dc_length, hdl 0]) (by decide)
  refine vc_loop (G := Nat) (fun j a x => ∃ (ev : Value) (XE : Seg), j ≤ 256 ∧ Buf 23 32 XE ev (j + 1) (digs (emptyL width) (j + 1)) ∧ Fr 26 [(8, .int .i64 (j : Int)), (3, ev), (0, .int .i64 width)] a ∧ Hp w0 (XE :: R) x) (fun j => 256 - j) 0 (⟨_, _, Nat.zero_le _, hE0, hF.keep [8, 3, 0] rfl, hA5⟩) ?_
  clear hF
  rintro j a w7 ⟨ev, XE, hj, hE, hF, hA6⟩
  apply wp_seq_k; intro K5 hK5
  refine wp_region_lit ?_
  refine vc_y hF rfl rfl (by decide) _ (y_cmp rfl rfl rfl rfl rfl) (fun a hF => ?_)
  refine vc_nil ?_
  refine hK5 _ _ ?_; clear  hK5 K5
  apply wp_seq_k; intro K6 hK6
  by_cases hlt : j < 256
  · refine vc_trueB hF rfl (lss_t (by omega)) ?_
    have hFn := hF
    obtain ⟨AE, cE, rfl, hcE, hRE⟩ := hE.rc (w0 := w0) (R := [XE]) (List.mem_cons_self ..)
    obtain ⟨hrd, hle⟩ := digs_rd (emptyL width) (j + 1) j (fun i _ => hdl i) (Nat.lt_succ_self _)
    obtain ⟨b, q, rfl, hc⟩ := hRE.ne (i := j * 32) (by omega)
    have hF := hFn
    clear hFn
    apply wp_skip
    refine hK6 _ _ ?_; clear  hK6 K6
    apply wp_seq_k; intro K7 hK7
    apply wp_block
    apply wp_seq_k; intro K8 hK8
    refine wp_region_lit ?_
    refine vc_y hF rfl rfl (by decide) _ (y_move rfl rfl) (fun a hF => ?_)
    refine vc_y hF rfl rfl (by decide) _ (y_assign rfl rfl) (fun a hF => ?_)
    refine vc_nil ?_
    refine hK8 _ _ ?_; clear  hK8 K8
    refine wp_region_plan 12 [10,11,12,13] [0,1,2,3,4,5,6,7,8,9,10,11,12,13] (fun x => Hq w0 (XE :: R) x) (by kernel_rfl) (by kernel_rfl) (Hq.drew (Hp.qp [XE] R [0] hA6)) ?_
    have hA8 := Hl.drew hA6
    refine vp_y hF rfl rfl rfl rfl (by decide) _ (fun x hx => y_move rfl rfl) (fun a hF => ?_)
    refine vp_y hF rfl rfl rfl rfl (by decide) _ (fun x hx => y_move rfl rfl) (fun a hF => ?_)
    refine vp_y hF rfl rfl rfl rfl (by decide) _ (fun x hx => y_move rfl rfl) (fun a hF => ?_)
    refine vp_y hF rfl rfl rfl rfl (by decide) _ (fun x hx => y_move rfl rfl) (fun a hF => ?_)
    refine vp_y hF rfl rfl rfl rfl (by decide) _ (fun x hx => y_ixSl rfl Tryd.underlying26 t7_size rfl rfl j rfl (Nat.lt_succ_self _) rfl) (fun a hF => ?_)
    refine vp_y hF rfl rfl rfl rfl (by decide) _ (fun x hx => y_ldRowC rfl (Hq.sub hx (sub1 ((List.mem_cons_self ..)))) rfl hc (j * 32) hle rfl hrd rw23_s2) (fun a hF => ?_)
    refine vp_y hF rfl rfl rfl rfl (by decide) _ (fun x hx => y_move rfl rfl) (fun a hF => ?_)
    refine vp_y hF rfl rfl rfl rfl (by decide) _ (fun x hx => y_move rfl rfl) (fun a hF => ?_)
    refine vp_y hF rfl rfl rfl rfl (by decide) _ (fun x hx => y_ixSl rfl Tryd.underlying26 t7_size rfl rfl j rfl (Nat.lt_succ_self _) rfl) (fun a hF => ?_)
    refine vp_y hF rfl rfl rfl rfl (by decide) _ (fun x hx => y_ldRowC rfl (Hq.sub hx (sub1 ((List.mem_cons_self ..)))) rfl hc (j * 32) hle rfl hrd rw23_s2) (fun a hF => ?_)
    refine vp_l rfl rfl rfl (fun K hK => ws_call hF rfl (by decide) cl96_s2 rfl rfl ?_)
    with_reducible refine (tt_branch w0 _ (XE :: R) width (emptyL width j) (emptyL width j) (hdl j) (hdl j) hT hA8 ).mono ?_
    rintro e' w9 ⟨rfl, hA10⟩
    refine ⟨_, rfl, fun a hF => hK _ _ (fun _ => ?_) ?_⟩
    · exact Hp.qp [XE] R [0] hA10
    clear hK K
    replace hA10 : Hp w0 (XE :: R) w9 := hA10
    rw [show ofL width 4 (emptyL width j ++ emptyL width j) = emptyL width (j + 1) from rfl] at hF
    refine vp_l rfl rfl rfl (fun K hK => hs_bs (qs := #[(0, .agg (dc (emptyL width (j + 1))).toArray)]) (cells := (dc (emptyL width (j + 1))).toArray) hF rfl (by decide) rfl hA10 rfl (t7_build (hdl (j + 1))) (fun b11 w12 a hb11 hF hA13 => hK _ _ (fun _ => ?_) ?_))
    · exact Hp.qp [[row b11 23 (dc (emptyL width (j + 1)))], XE] R [1] hA13
    clear hK K
    replace hA13 : Hp w0 ([row b11 23 (dc (emptyL width (j + 1)))] :: XE :: R) w12 := hA13
    refine vp_l rfl rfl rfl (fun K hK => hs_append hF rfl (by decide) rfl hA13 1 rfl hE Tryd.underlying26 t7_elem rfl rfl (Rc.srcC (W := dc (emptyL width (j + 1))) (m := 1) (size := 32) (R := [row b11 23 (dc (emptyL width (j + 1)))] :: XE :: R) (Rc.ofRow (i := 0) (off := 0) rfl (by rw [List.drop_zero]; exact List.take_length ..)) hA13.q Tryd.underlying26 (by decide) (by rw [dc_length, hdl]) (dc_one _)) (by omega) (by decide) (fun ev2 XE2 w14 a hE2 hF hA15 => hK _ _ (fun h => absurd h (by decide)) ?_))
    clear hK K
    replace hA15 : Hp w0 ([row b11 23 (dc (emptyL width (j + 1)))] :: XE2 :: R) w14 := hA15
    refine vp_ly hF rfl rfl rfl rfl (by decide) _ (y_assign rfl rfl) (fun h => absurd h (by decide)) (fun a hF => ?_)
    refine plan_end ?_
    refine hK7 _ _ ?_; clear  hK7 K7
    refine wp_region_lit ?_
    refine vc_y hF rfl rfl (by decide) _ (y_add rfl rfl rfl (IntWalk.i64_in _ (by omega))) (fun a hF => ?_)
    refine vc_y hF rfl rfl (by decide) _ (y_move rfl rfl) (fun a hF => ?_)
    refine vc_nil ?_
    have hA16 : Hp w0 (XE2 :: R) w14 := Hp.sel [[row b11 23 (dc (emptyL width (j + 1)))], XE2] R [1] [0] hA15 rfl
    exact ⟨j + 1, by omega, ev2, XE2, by omega, (by rw [digs_succ]; exact hE2), hF.keep [8, 3, 0] rfl, hA16⟩
  · refine vc_falseB hF rfl (lss_f (by omega)) ?_
    obtain rfl : j = 256 := by omega
    apply wp_exit
    refine hK3 _ _ ?_; clear hK6 K6 hK3 K3
    apply wp_seq_k; intro K9 hK9
    refine wp_region_lit ?_
    refine vc_y hF rfl rfl (by decide) _ (y_move rfl rfl) (fun a hF => ?_)
    refine vc_y hF rfl rfl (by decide) _ (y_assign rfl rfl) (fun a hF => ?_)
    refine vc_nil ?_
    refine hK9 _ _ ?_; clear  hK9 K9
    apply wp_ret
    refine vc_ret1 hF Tryd.results74 rfl ?_
    exact ⟨ev, XE, rfl, hE, hA6⟩

end Go.Proofs.YtpomngkcfbnjoaaDoor
