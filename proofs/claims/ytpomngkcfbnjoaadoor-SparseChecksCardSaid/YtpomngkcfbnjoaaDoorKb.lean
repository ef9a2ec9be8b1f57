/- The statements' books of memory. -/
import Derived.Test.YtpomngkcfbnjoaaDoorBk
import Derived.Test.YtpomngkcfbnjoaaDoorBook0
namespace Go.Proofs.YtpomngkcfbnjoaaDoor
open Go.RowKit Go.Dk

theorem kb_size1 : (Tryd.prog.info? 5).map (·.size) = some 1 := by kernel_rfl
theorem rw23_kb : isRow Tryd.prog 23 32 = true := by kernel_rfl
theorem sz23_kb : (Tryd.prog.info? 23).map (·.size) = some 32 := by kernel_rfl
theorem cl53_kb : CallsTo Tryd.prog 53 := ⟨_, Tryd.func53, by kernel_rfl, by kernel_rfl⟩


theorem kb_same_digest (w0 w : World) (R : List Seg) (pa pb : Option Addr) (xs ys : List (List UInt8)) (ca cb : Nat) (hX : Rc w0 R pa (cel dc xs)) (hY : Rc w0 R pb (cel dc ys)) (hx : ∀ x ∈ xs, (dc x).length = 32) (hy : ∀ x ∈ ys, (dc x).length = 32) (hA : Hp w0 R w) (hn : xs.length ≤ 9223372036854775807) : Calls Tryd.prog 53 #[.slice pa xs.length ca, .slice pb ys.length cb] w fun e w' => e = .returned (.bool (decide (xs = ys))) ∧ Hp w0 R w' :=
  bk_same_digests w0 w R pa pb xs ys ca cb hX hY (fun d hd => by rw [← dc_length]; exact hx d hd) (fun d hd => by rw [← dc_length]; exact hy d hd) hA hn

theorem kb_mk_digest : (Tryd.prog.info? 23).map (fun i => (i.zero.map (fun z => z.cells.toList), i.size, i.bytes)) = some (some (List.replicate 32 (.int .u8 0)), 32, 32) := by kernel_rfl
theorem kb_sz_digest : (Tryd.prog.info? 23).map (·.size) = some 32 := by kernel_rfl
theorem cel_one_digest {l : List (List UInt8)} (_ : ∀ x ∈ l, (dc x).length = 32) : ∀ v ∈ cel dc l, v.oneCell' = true := fun v hv => by
  obtain ⟨W, hW, hv⟩ := List.mem_flatten.1 hv
  obtain ⟨x, _, rfl⟩ := List.mem_map.1 hW
  exact dc_one x v hv

set_option maxRecDepth 100000 in
set_option maxHeartbeats 4000000 in
theorem kb_roomy_digest (w0 w : World) (R : List Seg) (B : Option Addr) (l : List (List UInt8)) (c : Nat) (y : List UInt8) (hB : Rc w0 R B (cel dc l)) (hl1 : ∀ x ∈ l, (dc x).length = 32) (hy1 : (dc y).length = 32) (hA : Hp w0 R w) (hl : l.length < 8796093022000) : Calls Tryd.prog 10 #[.slice B l.length c, .agg (dc y).toArray] w fun e w' => ∃ g, e = .returned (.slice (some ⟨g, 0, none⟩) (l.length + 80) (l.length + 80)) ∧ Hp w0 ([row g 23 (cel dc (l ++ List.replicate 80 y))] :: R) w' := by
  refine vc_enter Tryd.func10 rfl Tryd.ntmps10 (Nat.le_of_ble_eq_true rfl) (fun a hF => ?_)
  apply wp_seq_k; intro K1 hK1
  refine wp_region_lit ?_
  refine vc_op rfl (fun K hK => hs_box (cs := dc y) hF rfl (by decide) rfl hA rfl (fun b1 w2 a hb1 hF hA3 => hK _ _ ?_))
  clear hK K
  replace hA3 : Hp w0 ([row b1 23 (dc y)] :: R) w2 := hA3
  refine vc_y hF rfl rfl (by decide) _ (y_assign rfl rfl) (fun a hF => ?_)
  refine vc_nil ?_
  refine hK1 _ _ ?_; clear  hK1 K1
  apply wp_seq_k; intro K2 hK2
  refine wp_region_lit ?_
  refine vc_y hF rfl rfl (by decide) _ (y_move rfl rfl) (fun a hF => ?_)
  refine vc_y hF rfl rfl (by decide) _ (y_lenSl rfl Tryd.underlying26 rfl rfl) (fun a hF => ?_)
  refine vc_y hF rfl rfl (by decide) _ (y_add rfl rfl rfl (IntWalk.i64_in _ (by omega))) (fun a hF => ?_)
  refine vc_op rfl (fun K hK => hs_makeU (size := 32) (bytes := 32) (u := .int .u8 0) hF rfl (by decide) rfl hA3 Tryd.underlying26 kb_mk_digest (by decide) (l.length + 80) rfl rfl (by omega) (by omega) (by omega) (by omega) (fun b4 w5 a hb4 hF hA6 => hK _ _ ?_))
  clear hK K
  replace hA6 : Hp w0 ([row b4 23 (List.replicate ((l.length + 80) * 32) (.int .u8 0))] :: [row b1 23 (dc y)] :: R) w5 := hA6
  have hA7 : Hp w0 ([row b4 23 (cel dc (List.replicate (l.length + 80) (List.replicate 32 0 : List UInt8)))] :: [row b1 23 (dc y)] :: R) w5 := by rw [← cel_zero (C := dc) (sz := 32) (z := (List.replicate 32 0 : List UInt8)) (u := .int .u8 0) rfl]; exact hA6
  refine vc_y hF rfl rfl (by decide) _ (y_assign rfl rfl) (fun a hF => ?_)
  refine vc_nil ?_
  refine hK2 _ _ ?_; clear  hK2 K2
  apply wp_seq_k; intro K3 hK3
  refine wp_region_lit ?_
  refine vc_y hF rfl rfl (by decide) _ (y_move rfl rfl) (fun a hF => ?_)
  refine vc_y hF rfl rfl (by decide) _ (y_move rfl rfl) (fun a hF => ?_)
  refine vc_op rfl (fun K hK => hs_copyC (size := 32) hF rfl (by decide) rfl hA7 Tryd.underlying26 kb_sz_digest (by decide) rfl rfl l.length (Nat.min_eq_left (by omega)).symm (cel_len hl1) hB (Hq.sub hA7.q (subC (subC (sub0)))) (cel_one_digest hl1) 0 0 rfl (fun _ => rfl) (by rw [cel_len hl1, cel_len (sz := 32) (fun x hx => by rw [List.eq_of_mem_replicate hx]; rfl), List.length_replicate]; omega) (fun w8 a hF hA9 => hK _ _ ?_))
  clear hK K
  replace hA9 : Hp w0 ([row b4 23 (splice (cel dc (List.replicate (l.length + 80) (List.replicate 32 0 : List UInt8))) 0 (cel dc l))] :: [row b1 23 (dc y)] :: R) w8 := hA9
  have hA10 : Hp w0 ([row b4 23 (cel dc (l ++ List.replicate 0 y ++ List.replicate (80 - 0) (List.replicate 32 0 : List UInt8)))] :: [row b1 23 (dc y)] :: R) w8 := by
    have e := cel_splice0 (C := dc) (sz := 32) (l := List.replicate (l.length + 80) (List.replicate 32 0 : List UInt8)) (m := l) (fun x hx => by rw [List.eq_of_mem_replicate hx]; rfl) hl1 (by rw [List.length_replicate]; omega)
    rw [List.drop_replicate, show l.length + 80 - l.length = 80 - 0 by omega] at e
    rw [List.replicate_zero, List.append_nil, ← e]; exact hA9
  refine vc_nil ?_
  refine hK3 _ _ ?_; clear  hK3 K3
  apply wp_seq_k; intro K4 hK4
  apply wp_seq_k; intro K5 hK5
  refine wp_region_lit ?_
  refine vc_y hF rfl rfl (by decide) _ (y_move rfl rfl) (fun a hF => ?_)
  refine vc_y hF rfl rfl (by decide) _ (y_lenSl rfl Tryd.underlying26 rfl rfl) (fun a hF => ?_)
  refine vc_y hF rfl rfl (by decide) _ (y_assign rfl rfl) (fun a hF => ?_)
  refine vc_nil ?_
  refine hK5 _ _ ?_; clear  hK5 K5
  apply wp_block
  refine vc_loop (G := Nat) (fun j a x => j ≤ 80 ∧ Fr 27 [(6, .int .i64 ((l.length + j : Nat) : Int)), (0, .slice B l.length c), (5, .slice (some ⟨b4, 0, none⟩) (l.length + 80) (l.length + 80)), (3, .pointer (some ⟨b1, 0, none⟩))] a ∧ Hp w0 ([row b4 23 (cel dc (l ++ List.replicate j y ++ List.replicate (80 - j) (List.replicate 32 0 : List UInt8)))] :: [row b1 23 (dc y)] :: R) x) (fun j => 80 - j) 0 (⟨Nat.zero_le _, hF.keep [6, 0, 5, 3] rfl, hA10⟩) ?_
  clear hF
  rintro j a w12 ⟨hj, hF, hA11⟩
  apply wp_seq_k; intro K6 hK6
  apply wp_seq_k; intro K7 hK7
  refine wp_region_lit ?_
  refine vc_y hF rfl rfl (by decide) _ (y_move rfl rfl) (fun a hF => ?_)
  refine vc_y hF rfl rfl (by decide) _ (y_move rfl rfl) (fun a hF => ?_)
  refine vc_y hF rfl rfl (by decide) _ (y_lenSl rfl Tryd.underlying26 rfl rfl) (fun a hF => ?_)
  refine vc_y hF rfl rfl (by decide) _ (y_cmp rfl rfl rfl rfl rfl) (fun a hF => ?_)
  refine vc_nil ?_
  refine hK7 _ _ ?_; clear  hK7 K7
  by_cases hlt : l.length + j < l.length + 80
  · refine vc_trueB hF rfl (lss_t (by omega)) ?_
    apply wp_skip
    refine hK6 _ _ ?_; clear  hK6 K6
    apply wp_seq_k; intro K8 hK8
    apply wp_block
    refine wp_region_lit ?_
    refine vc_y hF rfl rfl (by decide) _ (y_move rfl rfl) (fun a hF => ?_)
    refine vc_y hF rfl rfl (by decide) _ (y_move rfl rfl) (fun a hF => ?_)
    refine vc_y hF rfl rfl (by decide) _ (y_ldRow (new := dc y) rfl hA11.q rfl 1 rfl rw23_kb (by rw [hy1]; exact Nat.le_refl _) (by rw [List.drop_zero]; exact List.take_of_length_le (by rw [hy1]; exact Nat.le_refl _))) (fun a hF => ?_)
    refine vc_y hF rfl rfl (by decide) _ (y_ixSl rfl Tryd.underlying26 sz23_kb rfl rfl (l.length + j) rfl (by omega) rfl) (fun a hF => ?_)
    have hfl : ∀ x ∈ l ++ List.replicate j y ++ List.replicate (80 - j) (List.replicate 32 0 : List UInt8), (dc x).length = 32 := fun x hx => by
      rcases List.mem_append.1 hx with hx | hx
      · rcases List.mem_append.1 hx with hx | hx
        · exact hl1 x hx
        · rw [List.eq_of_mem_replicate hx]; exact hy1
      · rw [List.eq_of_mem_replicate hx]; rfl
    have hflen : (l ++ List.replicate j y ++ List.replicate (80 - j) (List.replicate 32 0 : List UInt8)).length = l.length + 80 := by rw [List.length_append, List.length_append, List.length_replicate, List.length_replicate]; omega
    refine vc_op rfl (fun K hK => hs_storeRow (new := dc y) hF rfl rfl hA11 rfl rfl 0 rfl (by rw [cel_len hfl, hflen, hy1]; omega) (dc_one _) (by rw [hy1]; exact sz23_kb) (fun w13 hA14 => hK _ _ ?_))
    clear hK K
    replace hA14 : Hp w0 ([row b4 23 (splice (cel dc (l ++ List.replicate j y ++ List.replicate (80 - j) (List.replicate 32 0 : List UInt8))) (0 + (l.length + j) * 32) (dc y))] :: [row b1 23 (dc y)] :: R) w13 := hA14
    have hA15 : Hp w0 ([row b4 23 (cel dc (l ++ List.replicate (j + 1) y ++ List.replicate (80 - (j + 1)) (List.replicate 32 0 : List UInt8)))] :: [row b1 23 (dc y)] :: R) w13 := by
      rw [← fill_set, ← show 80 - j = 80 - (j + 1) + 1 by omega, ← cel_set hfl (by rw [hflen]; omega) hy1, ← Nat.zero_add ((l.length + j) * 32)]; exact hA14
    refine vc_nil ?_
    refine hK8 _ _ ?_; clear  hK8 K8
    refine wp_region_lit ?_
    refine vc_y hF rfl rfl (by decide) _ (y_move rfl rfl) (fun a hF => ?_)
    refine vc_y hF rfl rfl (by decide) _ (y_add rfl rfl rfl (IntWalk.i64_in _ (by omega))) (fun a hF => ?_)
    refine vc_y hF rfl rfl (by decide) _ (y_assign rfl rfl) (fun a hF => ?_)
    refine vc_nil ?_
    exact ⟨j + 1, by omega, by omega, hF.keep [6, 0, 5, 3] rfl, hA15⟩
  · refine vc_falseB hF rfl (lss_f (by omega)) ?_
    obtain rfl : j = 80 := by omega
    apply wp_exit
    refine hK4 _ _ ?_; clear hK6 K6 hK4 K4
    apply wp_seq_k; intro K9 hK9
    refine wp_region_lit ?_
    refine vc_y hF rfl rfl (by decide) _ (y_move rfl rfl) (fun a hF => ?_)
    refine vc_y hF rfl rfl (by decide) _ (y_assign rfl rfl) (fun a hF => ?_)
    refine vc_nil ?_
    refine hK9 _ _ ?_; clear  hK9 K9
    apply wp_ret
    refine vc_ret1 hF Tryd.results10 rfl ?_
    have hA16 : Hp w0 ([row b4 23 (cel dc (l ++ List.replicate 80 y ++ List.replicate (80 - 80) (List.replicate 32 0 : List UInt8)))] :: R) w12 := Hp.sel [[row b4 23 (cel dc (l ++ List.replicate 80 y ++ List.replicate (80 - 80) (List.replicate 32 0 : List UInt8)))], [row b1 23 (dc y)]] R [0] [1] hA11 rfl
    rw [Nat.sub_self, List.replicate_zero, List.append_nil] at hA16
    exact ⟨_, rfl, hA16⟩

set_option maxRecDepth 100000 in
set_option maxHeartbeats 4000000 in
theorem kb_intact_digest (w0 w : World) (R : List Seg) (B B2 : Option Addr) (l : List (List UInt8)) (c c2 : Nat) (y : List UInt8) (hB : Rc w0 R B (cel dc (l ++ List.replicate 80 y))) (hB2 : Rc w0 R B2 (cel dc l)) (hl1 : ∀ x ∈ l, (dc x).length = 32) (hy1 : (dc y).length = 32) (hc : l.length + 80 ≤ c) (hA : Hp w0 R w) (hl : l.length < 8796093022000) : Calls Tryd.prog 17 #[.slice B (l.length + 80) c, .slice B2 l.length c2, .agg (dc y).toArray] w fun e w' => e = .returned (.bool true) ∧ Hp w0 R w' := by
  have hlen1 : (cel dc l).length = l.length * 32 := cel_len hl1
  have hpre : Rc w0 R B (cel dc l) := by
    have h1 := hB.take (cel dc l).length
    rwa [cel_append, List.take_left] at h1
  have hfl : ∀ x ∈ l ++ List.replicate 80 y, (dc x).length = 32 := fun x hx => by
    rcases List.mem_append.1 hx with hx | hx
    · exact hl1 x hx
    · rw [List.eq_of_mem_replicate hx]; exact hy1
  refine vc_enter Tryd.func17 rfl Tryd.ntmps17 (Nat.le_of_ble_eq_true rfl) (fun a hF => ?_)
  apply wp_seq_k; intro K1 hK1
  refine wp_region_lit ?_
  refine vc_op rfl (fun K hK => hs_box (cs := dc y) hF rfl (by decide) rfl hA rfl (fun b1 w2 a hb1 hF hA3 => hK _ _ ?_))
  clear hK K
  replace hA3 : Hp w0 ([row b1 23 (dc y)] :: R) w2 := hA3
  refine vc_y hF rfl rfl (by decide) _ (y_assign rfl rfl) (fun a hF => ?_)
  refine vc_nil ?_
  refine hK1 _ _ ?_; clear  hK1 K1
  apply wp_seq_k; intro K2 hK2
  apply wp_seq_k; intro K3 hK3
  refine wp_region_lit ?_
  refine vc_y hF rfl rfl (by decide) _ (y_move rfl rfl) (fun a hF => ?_)
  refine vc_y hF rfl rfl (by decide) _ (y_lenSl rfl Tryd.underlying26 rfl rfl) (fun a hF => ?_)
  refine vc_y hF rfl rfl (by decide) _ (y_move rfl rfl) (fun a hF => ?_)
  refine vc_y hF rfl rfl (by decide) _ (y_lenSl rfl Tryd.underlying26 rfl rfl) (fun a hF => ?_)
  refine vc_y hF rfl rfl (by decide) _ (y_add rfl rfl rfl (IntWalk.i64_in _ (by omega))) (fun a hF => ?_)
  refine vc_y hF rfl rfl (by decide) _ (y_cmp rfl rfl rfl rfl (neq_f (by omega))) (fun a hF => ?_)
  refine vc_y hF rfl rfl (by decide) _ (y_move rfl rfl) (fun a hF => ?_)
  refine vc_yg hF rfl rfl rfl rfl rfl (by decide) _ (y_move rfl rfl) (fun a hF => ?_)
  refine vc_yg hF rfl rfl rfl rfl rfl (by decide) _ (y_move rfl rfl) (fun a hF => ?_)
  refine vc_yg hF rfl rfl rfl rfl rfl (by decide) _ (y_lenSl rfl Tryd.underlying26 rfl rfl) (fun a hF => ?_)
  refine vc_yg hF rfl rfl rfl rfl rfl (by decide) _ (y_slice rfl Tryd.underlying26 kb_sz_digest rfl (.none 0) (.some rfl rfl) (Nat.zero_le _) (by omega) slice_to) (fun a hF => ?_)
  refine vc_yg hF rfl rfl rfl rfl rfl (by decide) _ (y_move rfl rfl) (fun a hF => ?_)
  refine vc_opg hF rfl rfl rfl rfl (fun K hK => ws_call hF rfl (by decide) cl53_kb rfl rfl ?_)
  with_reducible refine (kb_same_digest w0 _ ([row b1 23 (dc y)] :: R) B B2 l l c c2 (hpre.mono (subC (sub0))) (hB2.mono (subC (sub0))) hl1 hl1 hA3 (by omega) ).mono ?_
  rintro e' w4 ⟨rfl, hA5⟩
  refine ⟨_, rfl, fun a hF => hK _ _ ?_⟩
  clear hK K
  replace hA5 : Hp w0 ([row b1 23 (dc y)] :: R) w4 := hA5
  rw [decide_eq_true rfl] at hF
  refine vc_yg hF rfl rfl rfl rfl rfl (by decide) _ (y_not rfl rfl rfl) (fun a hF => ?_)
  refine vc_y hF rfl rfl (by decide) _ (y_pick rfl rfl rfl) (fun a hF => ?_)
  refine vc_nil ?_
  refine hK3 _ _ ?_; clear  hK3 K3
  refine vc_false hF rfl ?_
  apply wp_skip
  refine hK2 _ _ ?_; clear  hK2 K2
  apply wp_seq_k; intro K4 hK4
  apply wp_seq_k; intro K5 hK5
  refine wp_region_lit ?_
  refine vc_y hF rfl rfl (by decide) _ (y_move rfl rfl) (fun a hF => ?_)
  refine vc_y hF rfl rfl (by decide) _ (y_lenSl rfl Tryd.underlying26 rfl rfl) (fun a hF => ?_)
  refine vc_y hF rfl rfl (by decide) _ (y_assign rfl rfl) (fun a hF => ?_)
  refine vc_nil ?_
  refine hK5 _ _ ?_; clear  hK5 K5
  apply wp_block
  refine vc_loop (G := Nat) (fun j a x => j ≤ 80 ∧ Fr 37 [(7, .int .i64 ((l.length + j : Nat) : Int)), (0, .slice B (l.length + 80) c), (5, .pointer (some ⟨b1, 0, none⟩))] a ∧ Hp w0 ([row b1 23 (dc y)] :: R) x) (fun j => 80 - j) 0 (⟨Nat.zero_le _, hF.keep [7, 0, 5] rfl, hA5⟩) ?_
  clear hF
  rintro j a w7 ⟨hj, hF, hA6⟩
  apply wp_seq_k; intro K6 hK6
  apply wp_seq_k; intro K7 hK7
  refine wp_region_lit ?_
  refine vc_y hF rfl rfl (by decide) _ (y_move rfl rfl) (fun a hF => ?_)
  refine vc_y hF rfl rfl (by decide) _ (y_move rfl rfl) (fun a hF => ?_)
  refine vc_y hF rfl rfl (by decide) _ (y_lenSl rfl Tryd.underlying26 rfl rfl) (fun a hF => ?_)
  refine vc_y hF rfl rfl (by decide) _ (y_cmp rfl rfl rfl rfl rfl) (fun a hF => ?_)
  refine vc_nil ?_
  refine hK7 _ _ ?_; clear  hK7 K7
  by_cases hlt : l.length + j < l.length + 80
  · refine vc_trueB hF rfl (lss_t (by omega)) ?_
    have hat : (l ++ List.replicate 80 y)[l.length + j]? = some y := by rw [List.getElem?_append_right (by omega), Nat.add_sub_cancel_left, List.getElem?_replicate, if_pos (by omega)]
    obtain ⟨hc1, hc2⟩ := cel_at hfl hat
    obtain ⟨b, o, rfl, hc⟩ := hB.ne (i := (l.length + j) * 32) (by omega)
    have hyl : y.length = 32 := by rw [← dc_length]; exact hy1
    apply wp_skip
    refine hK6 _ _ ?_; clear  hK6 K6
    apply wp_seq_k; intro K8 hK8
    apply wp_block
    apply wp_seq_k; intro K9 hK9
    refine wp_region_plan 5 [5] [0,1,2,3,4,5] (fun x => Hq w0 ([row b1 23 (dc y)] :: R) x) (by kernel_rfl) (by kernel_rfl) (Hq.drew (Hp.qp [[row b1 23 (dc y)]] R [0] hA6)) ?_
    have hA8 := Hl.drew hA6
    refine vp_y hF rfl rfl rfl rfl (by decide) _ (fun x hx => y_move rfl rfl) (fun a hF => ?_)
    refine vp_y hF rfl rfl rfl rfl (by decide) _ (fun x hx => y_move rfl rfl) (fun a hF => ?_)
    refine vp_y hF rfl rfl rfl rfl (by decide) _ (fun x hx => y_ixSl rfl Tryd.underlying26 sz23_kb rfl rfl (l.length + j) rfl (by omega) rfl) (fun a hF => ?_)
    refine vp_y hF rfl rfl rfl rfl (by decide) _ (fun x hx => y_ldRowC (new := dc y) rfl (Hq.sub hx (subC (sub0))) rfl hc ((l.length + j) * 32) hc2 rfl hc1 rw23_kb) (fun a hF => ?_)
    refine vp_y hF rfl rfl rfl rfl (by decide) _ (fun x hx => y_ldRow (new := dc y) rfl hx rfl 0 rfl rw23_kb (by rw [hy1]; exact Nat.le_refl _) (by rw [List.drop_zero]; exact List.take_of_length_le (by rw [hy1]; exact Nat.le_refl _))) (fun a hF => ?_)
    refine vp_ly hF rfl rfl rfl rfl (by decide) _ (y_neB (X := y) (Y := y) (c := false) rfl Tryd.underlying23 Tryd.underlying5 kb_size1 (by kernel_rfl) rfl rfl hyl hyl (ndec_f rfl)) (fun h => absurd h (by decide)) (fun a hF => ?_)
    refine plan_end ?_
    refine hK9 _ _ ?_; clear  hK9 K9
    refine vc_false hF rfl ?_
    apply wp_skip
    refine hK8 _ _ ?_; clear  hK8 K8
    refine wp_region_lit ?_
    refine vc_y hF rfl rfl (by decide) _ (y_move rfl rfl) (fun a hF => ?_)
    refine vc_y hF rfl rfl (by decide) _ (y_add rfl rfl rfl (IntWalk.i64_in _ (by omega))) (fun a hF => ?_)
    refine vc_y hF rfl rfl (by decide) _ (y_assign rfl rfl) (fun a hF => ?_)
    refine vc_nil ?_
    exact ⟨j + 1, by omega, by omega, hF.keep [7, 0, 5] rfl, hA8⟩
  · refine vc_falseB hF rfl (lss_f (by omega)) ?_
    apply wp_exit
    refine hK4 _ _ ?_; clear hK6 K6 hK4 K4
    apply wp_seq_k; intro K10 hK10
    refine wp_region_lit ?_
    refine vc_y hF rfl rfl (by decide) _ (y_assign rfl rfl) (fun a hF => ?_)
    refine vc_nil ?_
    refine hK10 _ _ ?_; clear  hK10 K10
    apply wp_ret
    refine vc_ret1 hF Tryd.results17 rfl ?_
    have hA9 : Hp w0 (R) w7 := Hp.sel [[row b1 23 (dc y)]] R [] [0] hA6 rfl
    exact ⟨rfl, hA9⟩
end Go.Proofs.YtpomngkcfbnjoaaDoor
