/- OctetNames: the walk of the law. -/
import Derived.Test.YthphfbohhbkdgaaOctetR
namespace Go.Proofs.Ythphfbohhbkdgaa
open Go.RowKit Go.Dk

theorem wr_after {w0 : World} {wb : Nat} {R X Y : List Row} {v v2 : Value} {l m : List UInt8} {n : Nat} {x x' : World} (h : Wr w0 wb R X v l x) (hY : Own w0 5 1 Y v2 n (dc m)) (hx : At w0 ([(wb, 93, [v])] ++ R ++ X ++ Y) x') : Wr w0 wb R X v l x' :=
  ⟨h.1, hx.drop (List.sublist_append_left _ _) (fun r hr hlt => by
    rcases List.mem_append.1 hr with hr | hr
    · exact hr
    · exact absurd (hY.new r hr) (by omega))⟩
theorem cl17_ln : CallsTo Try.prog 17 := ⟨_, Try.func17, by kernel_rfl, by kernel_rfl⟩
theorem cl18_ln : CallsTo Try.prog 18 := ⟨_, Try.func18, by kernel_rfl, by kernel_rfl⟩
theorem cl19_ln : CallsTo Try.prog 19 := ⟨_, Try.func19, by kernel_rfl, by kernel_rfl⟩
theorem cl20_ln : CallsTo Try.prog 20 := ⟨_, Try.func20, by kernel_rfl, by kernel_rfl⟩
theorem cl21_ln : CallsTo Try.prog 21 := ⟨_, Try.func21, by kernel_rfl, by kernel_rfl⟩
theorem cl22_ln : CallsTo Try.prog 22 := ⟨_, Try.func22, by kernel_rfl, by kernel_rfl⟩
theorem cl23_ln : CallsTo Try.prog 23 := ⟨_, Try.func23, by kernel_rfl, by kernel_rfl⟩
theorem cl24_ln : CallsTo Try.prog 24 := ⟨_, Try.func24, by kernel_rfl, by kernel_rfl⟩
theorem cl25_ln : CallsTo Try.prog 25 := ⟨_, Try.func25, by kernel_rfl, by kernel_rfl⟩
theorem cl26_ln : CallsTo Try.prog 26 := ⟨_, Try.func26, by kernel_rfl, by kernel_rfl⟩
theorem cl27_ln : CallsTo Try.prog 27 := ⟨_, Try.func27, by kernel_rfl, by kernel_rfl⟩
theorem cl28_ln : CallsTo Try.prog 28 := ⟨_, Try.func28, by kernel_rfl, by kernel_rfl⟩
theorem cl29_ln : CallsTo Try.prog 29 := ⟨_, Try.func29, by kernel_rfl, by kernel_rfl⟩
theorem cl30_ln : CallsTo Try.prog 30 := ⟨_, Try.func30, by kernel_rfl, by kernel_rfl⟩
theorem cl31_ln : CallsTo Try.prog 31 := ⟨_, Try.func31, by kernel_rfl, by kernel_rfl⟩

set_option maxRecDepth 100000 in
set_option maxHeartbeats 2000000 in
theorem law_octnames (w : World) : Calls Try.prog 5 #[] w fun e w' => e = .returned (.bool true) ∧ At w [] w' := by
  refine vc_enter Try.func5 rfl Try.ntmps5 (Nat.le_of_ble_eq_true rfl) (fun a hF => ?_)
  apply wp_seq_k; intro K1 hK1
  refine wp_region_lit ?_
  refine vc_y hF rfl rfl (by decide) _ (y_assign rfl rfl) (fun a hF => ?_)
  refine vc_nil ?_
  refine hK1 _ _ ?_; clear  hK1 K1
  apply wp_seq_k; intro K2 hK2
  refine vc_false hF rfl ?_
  apply wp_skip
  refine hK2 _ _ ?_; clear  hK2 K2
  apply wp_seq_k; intro K3 hK3
  refine wp_region_lit ?_
  refine vc_op rfl (fun K hK => ws_call hF rfl (by decide) cl17_ln rfl rfl ?_)
  with_reducible refine (ow_put_nil_uint8 w _).mono ?_
  rintro e' w' ⟨rfl, rfl⟩
  refine ⟨_, rfl, fun a hF => hK _ _ ?_⟩; clear hK K
  refine vc_nil ?_
  refine hK3 _ _ ?_; clear  hK3 K3
  apply wp_seq_k; intro K4 hK4
  refine wp_region_lit ?_
  refine vc_op rfl (fun K hK => ws_call hF rfl (by decide) cl18_ln rfl rfl ?_)
  with_reducible refine (ow_put_nil_uint64 w _).mono ?_
  rintro e' w' ⟨rfl, rfl⟩
  refine ⟨_, rfl, fun a hF => hK _ _ ?_⟩; clear hK K
  refine vc_nil ?_
  refine hK4 _ _ ?_; clear  hK4 K4
  apply wp_seq_k; intro K5 hK5
  apply wp_seq_k; intro K6 hK6
  refine wp_region_lit ?_
  refine vc_op rfl (fun K hK => ws_call hF rfl (by decide) cl19_ln rfl rfl ?_)
  with_reducible refine (or_take_nil_uint8 w).mono ?_
  rintro e' w' ⟨rfl, rfl⟩
  refine ⟨_, rfl, fun a hF => hK _ _ ?_⟩; clear hK K
  refine vc_y hF rfl rfl (by decide) _ (y_cmp (c := false) rfl rfl rfl rfl rfl) (fun a hF => ?_)
  refine vc_y hF rfl rfl (by decide) _ (y_move rfl rfl) (fun a hF => ?_)
  refine vc_opg hF rfl rfl rfl rfl (fun K hK => ws_call hF rfl (by decide) cl20_ln rfl rfl ?_)
  with_reducible refine (or_take_nil_uint64 w).mono ?_
  rintro e' w' ⟨rfl, rfl⟩
  refine ⟨_, rfl, fun a hF => hK _ _ ?_⟩; clear hK K
  refine vc_yg hF rfl rfl rfl rfl rfl (by decide) _ (y_cmp (c := false) rfl rfl rfl rfl rfl) (fun a hF => ?_)
  refine vc_y hF rfl rfl (by decide) _ (y_pick rfl rfl rfl) (fun a hF => ?_)
  refine vc_nil ?_
  refine hK6 _ _ ?_; clear  hK6 K6
  refine vc_false hF rfl ?_
  apply wp_skip
  refine hK5 _ _ ?_; clear  hK5 K5
  apply wp_seq_k; intro K7 hK7
  refine wp_region_lit ?_
  refine vc_op rfl (fun K hK => ws_call hF rfl (by decide) cl21_ln rfl rfl ?_)
  with_reducible refine (ow_new_any w).mono ?_
  rintro e' w1 ⟨g, rfl, hg, hA1⟩
  refine ⟨_, rfl, fun a hF => hK _ _ ?_⟩; clear hK K
  have hW1 : Wr w g [] [] (.slice none 0 0) [] w1 := ⟨Own.nil w 5 1, hA1⟩
  refine vc_y hF rfl rfl (by decide) _ (y_assign rfl rfl) (fun a hF => ?_)
  refine vc_nil ?_
  refine hK7 _ _ ?_; clear  hK7 K7
  apply wp_seq_k; intro K8 hK8
  apply wp_seq_k; intro K9 hK9
  refine wp_region_lit ?_
  refine vc_y hF rfl rfl (by decide) _ (y_move rfl rfl) (fun a hF => ?_)
  refine vc_y hF rfl rfl (by decide) _ (y_eqNil rfl (by kernel_rfl) rfl rfl) (fun a hF => ?_)
  refine vc_y hF rfl rfl (by decide) _ (y_move rfl rfl) (fun a hF => ?_)
  refine vc_yg hF rfl rfl rfl rfl rfl (by decide) _ (y_move rfl rfl) (fun a hF => ?_)
  refine vc_opg hF rfl rfl rfl rfl (fun K hK => ws_call hF rfl (by decide) cl22_ln rfl rfl ?_)
  with_reducible refine (ow_len w w1 g [] [] _ [] hW1).mono ?_
  rintro e' w2 ⟨rfl, hW2⟩
  refine ⟨_, rfl, fun a hF => hK _ _ ?_⟩; clear hK K
  refine vc_yg hF rfl rfl rfl rfl rfl (by decide) _ (y_cmp (c := false) rfl rfl rfl rfl rfl) (fun a hF => ?_)
  refine vc_y hF rfl rfl (by decide) _ (y_pick rfl rfl rfl) (fun a hF => ?_)
  refine vc_y hF rfl rfl (by decide) _ (y_move rfl rfl) (fun a hF => ?_)
  refine vc_yg hF rfl rfl rfl rfl rfl (by decide) _ (y_move rfl rfl) (fun a hF => ?_)
  refine vc_opg hF rfl rfl rfl rfl (fun K hK => ws_call hF rfl (by decide) cl23_ln rfl rfl ?_)
  with_reducible refine (ow_all w w2 g [] [] _ [] hW2 (by decide)).mono ?_
  rintro e' w3 ⟨v3, Y3, rfl, hO3, hA3⟩
  refine ⟨_, rfl, fun a hF => hK _ _ ?_⟩; clear hK K
  have hW3 := wr_after hW2 hO3 hA3
  obtain ⟨_, A3, c3, rfl, _, _⟩ := own_parts hO3
  refine vc_yg hF rfl rfl rfl rfl rfl (by decide) _ (y_lenSl rfl Try.underlying35 rfl rfl) (fun a hF => ?_)
  refine vc_yg hF rfl rfl rfl rfl rfl (by decide) _ (y_cmp (c := false) rfl rfl rfl rfl rfl) (fun a hF => ?_)
  refine vc_y hF rfl rfl (by decide) _ (y_pick rfl rfl rfl) (fun a hF => ?_)
  refine vc_nil ?_
  refine hK9 _ _ ?_; clear  hK9 K9
  refine vc_false hF rfl ?_
  apply wp_skip
  refine hK8 _ _ ?_; clear  hK8 K8
  apply wp_seq_k; intro K10 hK10
  refine wp_region_lit ?_
  refine vc_y hF rfl rfl (by decide) _ (y_move rfl rfl) (fun a hF => ?_)
  refine vc_op rfl (fun K hK => ws_call hF rfl (by decide) cl24_ln rfl rfl ?_)
  with_reducible refine (ow_put_uint16 w w3 g [] [] _ [] 770 (by decide) 770 rfl hW3 (by decide)).mono ?_
  rintro e' w4 ⟨rfl, v4, X4, hW4⟩
  refine ⟨_, rfl, fun a hF => hK _ _ ?_⟩; clear hK K
  refine vc_nil ?_
  refine hK10 _ _ ?_; clear  hK10 K10
  apply wp_seq_k; intro K11 hK11
  refine wp_region_lit ?_
  refine vc_y hF rfl rfl (by decide) _ (y_move rfl rfl) (fun a hF => ?_)
  refine vc_op rfl (fun K hK => ws_call hF rfl (by decide) cl25_ln rfl rfl ?_)
  with_reducible refine (ow_flag w w4 g [] X4 v4 _ true hW4 (by decide)).mono ?_
  rintro e' w5 ⟨rfl, v5, X5, hW5⟩
  refine ⟨_, rfl, fun a hF => hK _ _ ?_⟩; clear hK K
  replace hW5 : Wr w g [] X5 v5 [3, 2, 1] w5 := hW5.same (by decide)
  refine vc_nil ?_
  refine hK11 _ _ ?_; clear  hK11 K11
  apply wp_seq_k; intro K12 hK12
  apply wp_seq_k; intro K13 hK13
  refine wp_region_lit ?_
  refine vc_y hF rfl rfl (by decide) _ (y_move rfl rfl) (fun a hF => ?_)
  refine vc_op rfl (fun K hK => ws_call hF rfl (by decide) cl23_ln rfl rfl ?_)
  with_reducible refine (ow_all w w5 g [] X5 v5 _ hW5 (by decide)).mono ?_
  rintro e' w6 ⟨v6, Y6, rfl, hO6, hA6⟩
  refine ⟨_, rfl, fun a hF => hK _ _ ?_⟩; clear hK K
  have hW6 := wr_after hW5 hO6 hA6
  obtain ⟨_, A6, c6, rfl, _, hB6⟩ := own_parts hO6
  refine vc_y hF rfl rfl (by decide) _ (y_convStr (l := [3, 2, 1]) rfl Try.underlying35 Try.underlying5 Try.underlying9 rfl rfl (hB6 _ _ hA6)) (fun a hF => ?_)
  refine vc_y hF rfl rfl (by decide) _ (y_cmpS (c := false) rfl rfl rfl rfl (by decide)) (fun a hF => ?_)
  refine vc_y hF rfl rfl (by decide) _ (y_move rfl rfl) (fun a hF => ?_)
  refine vc_yg hF rfl rfl rfl rfl rfl (by decide) _ (y_move rfl rfl) (fun a hF => ?_)
  refine vc_opg hF rfl rfl rfl rfl (fun K hK => ws_call hF rfl (by decide) cl22_ln rfl rfl ?_)
  with_reducible refine (ow_len w w6 g [] X5 v5 _ hW6).mono ?_
  rintro e' w7 ⟨rfl, hW7⟩
  refine ⟨_, rfl, fun a hF => hK _ _ ?_⟩; clear hK K
  refine vc_yg hF rfl rfl rfl rfl rfl (by decide) _ (y_cmp (c := false) rfl rfl rfl rfl rfl) (fun a hF => ?_)
  refine vc_y hF rfl rfl (by decide) _ (y_pick rfl rfl rfl) (fun a hF => ?_)
  refine vc_nil ?_
  refine hK13 _ _ ?_; clear  hK13 K13
  refine vc_false hF rfl ?_
  apply wp_skip
  refine hK12 _ _ ?_; clear  hK12 K12
  apply wp_seq_k; intro K14 hK14
  refine wp_region_lit ?_
  refine vc_y hF rfl rfl (by decide) _ (y_move rfl rfl) (fun a hF => ?_)
  refine vc_op rfl (fun K hK => ws_call hF rfl (by decide) cl23_ln rfl rfl ?_)
  with_reducible refine (ow_all w w7 g [] X5 v5 _ hW7 (by decide)).mono ?_
  rintro e' w8 ⟨v8, Y8, rfl, hO8, hA8⟩
  refine ⟨_, rfl, fun a hF => hK _ _ ?_⟩; clear hK K
  obtain ⟨_, A8, c8, rfl, _, hB8⟩ := own_parts hO8
  refine vc_op rfl (fun K hK => ws_call hF rfl (by decide) cl26_ln rfl rfl ?_)
  with_reducible refine (or_read w8 A8 [3, 2, 1] c8 _ rfl (hB8 _ _ hA8) (by decide)).mono ?_
  rintro e' w9 ⟨rb, A9, c9, R, rfl, hg9, hc9, hX9, hB9, hA9⟩
  refine ⟨_, rfl, fun a hF => hK _ _ ?_⟩; clear hK K
  have hB : ∀ (v : List Value) (x : World), At w8 ((rb, 95, v) :: R) x → Bts x A9 [3, 2, 1] := fun v x hx => hB9 [(rb, 95, v)] x hx
  refine vc_y hF rfl rfl (by decide) _ (y_assign rfl rfl) (fun a hF => ?_)
  refine vc_nil ?_
  refine hK14 _ _ ?_; clear  hK14 K14
  apply wp_seq_k; intro K15 hK15
  apply wp_seq_k; intro K16 hK16
  refine wp_region_lit ?_
  refine vc_y hF rfl rfl (by decide) _ (y_move rfl rfl) (fun a hF => ?_)
  refine vc_y hF rfl rfl (by decide) _ (y_eqNil rfl (by kernel_rfl) rfl rfl) (fun a hF => ?_)
  refine vc_y hF rfl rfl (by decide) _ (y_move rfl rfl) (fun a hF => ?_)
  refine vc_yg hF rfl rfl rfl rfl rfl (by decide) _ (y_move rfl rfl) (fun a hF => ?_)
  refine vc_opg hF rfl rfl rfl rfl (fun K hK => ws_call hF rfl (by decide) cl27_ln rfl rfl ?_)
  with_reducible refine (or_take_uint16 w8 w9 rb R A9 [3, 2, 1] c9 0 0 hB hc9 hA9 (by decide) (by decide)).mono ?_
  rintro e' w10 ⟨rfl, hA10⟩
  refine ⟨_, rfl, fun a hF => hK _ _ ?_⟩; clear hK K
  rw [show tkP 2 [3, 2, 1] 0 0 = 2 by decide, show tkY 2 [3, 2, 1] 0 0 = 0 by decide] at hA10
  refine vc_yg hF rfl rfl rfl rfl rfl (by decide) _ (y_cmp (c := false) rfl rfl rfl rfl (by decide)) (fun a hF => ?_)
  refine vc_y hF rfl rfl (by decide) _ (y_pick rfl rfl rfl) (fun a hF => ?_)
  refine vc_y hF rfl rfl (by decide) _ (y_move rfl rfl) (fun a hF => ?_)
  refine vc_yg hF rfl rfl rfl rfl rfl (by decide) _ (y_move rfl rfl) (fun a hF => ?_)
  refine vc_opg hF rfl rfl rfl rfl (fun K hK => ws_call hF rfl (by decide) cl28_ln rfl rfl ?_)
  with_reducible refine (or_flag w8 w10 rb R A9 [3, 2, 1] c9 2 0 hB hc9 hA10 (by decide) (by decide)).mono ?_
  rintro e' w11 ⟨rfl, hA11⟩
  refine ⟨_, rfl, fun a hF => hK _ _ ?_⟩; clear hK K
  rw [show flP [3, 2, 1] 2 0 = 3 by decide, show flY [3, 2, 1] 2 0 = 0 by decide] at hA11
  refine vc_yg hF rfl rfl rfl rfl rfl (by decide) _ (y_not (e := false) rfl rfl (by decide)) (fun a hF => ?_)
  refine vc_y hF rfl rfl (by decide) _ (y_pick rfl rfl rfl) (fun a hF => ?_)
  refine vc_y hF rfl rfl (by decide) _ (y_move rfl rfl) (fun a hF => ?_)
  refine vc_yg hF rfl rfl rfl rfl rfl (by decide) _ (y_move rfl rfl) (fun a hF => ?_)
  refine vc_opg hF rfl rfl rfl rfl (fun K hK => ws_call hF rfl (by decide) cl29_ln rfl rfl ?_)
  with_reducible refine (or_left w8 w11 rb R A9 [3, 2, 1] c9 3 0 hA11 (by decide) (by decide)).mono ?_
  rintro e' w12 ⟨rfl, hA12⟩
  refine ⟨_, rfl, fun a hF => hK _ _ ?_⟩; clear hK K
  refine vc_yg hF rfl rfl rfl rfl rfl (by decide) _ (y_cmp (c := false) rfl rfl rfl rfl (by decide)) (fun a hF => ?_)
  refine vc_y hF rfl rfl (by decide) _ (y_pick rfl rfl rfl) (fun a hF => ?_)
  refine vc_nil ?_
  refine hK16 _ _ ?_; clear  hK16 K16
  refine vc_false hF rfl ?_
  apply wp_skip
  refine hK15 _ _ ?_; clear  hK15 K15
  apply wp_seq_k; intro K17 hK17
  refine wp_region_lit ?_
  refine vc_y hF rfl rfl (by decide) _ (y_move rfl rfl) (fun a hF => ?_)
  refine vc_op rfl (fun K hK => ws_call hF rfl (by decide) cl30_ln rfl rfl ?_)
  with_reducible refine (or_done w8 w12 rb R A9 [3, 2, 1] c9 3 0 hA12 (by decide) (by decide)).mono ?_
  rintro e' w13 ⟨rfl, hA13⟩
  refine ⟨_, rfl, fun a hF => hK _ _ ?_⟩; clear hK K
  refine vc_y hF rfl rfl (by decide) _ (y_cmp (c := true) rfl rfl rfl rfl (by decide)) (fun a hF => ?_)
  refine vc_y hF rfl rfl (by decide) _ (y_move rfl rfl) (fun a hF => ?_)
  refine vc_yg hF rfl rfl rfl rfl rfl (by decide) _ (y_move rfl rfl) (fun a hF => ?_)
  refine vc_opg hF rfl rfl rfl rfl (fun K hK => ws_call hF rfl (by decide) cl31_ln rfl rfl ?_)
  with_reducible refine (or_why w8 w13 rb R A9 [3, 2, 1] c9 3 0 hA13).mono ?_
  rintro e' w14 ⟨rfl, hA14⟩
  refine ⟨_, rfl, fun a hF => hK _ _ ?_⟩; clear hK K
  refine vc_yg hF rfl rfl rfl rfl rfl (by decide) _ (y_cmp (c := true) rfl rfl rfl rfl (by decide)) (fun a hF => ?_)
  refine vc_y hF rfl rfl (by decide) _ (y_pick rfl rfl rfl) (fun a hF => ?_)
  refine vc_y hF rfl rfl (by decide) _ (y_move rfl rfl) (fun a hF => ?_)
  refine vc_opg hF rfl rfl rfl rfl (fun K hK => ws_call hF rfl (by decide) cl26_ln rfl rfl ?_)
  with_reducible refine (or_read w14 none [] 0 0 rfl (Bts.nil _ _) (by decide)).mono ?_
  rintro e' w15 ⟨rb2, A15, c15, R15, rfl, hg15, hc15, hX15, hB15, hA15⟩
  refine ⟨_, rfl, fun a hF => hK _ _ ?_⟩; clear hK K
  refine vc_opg hF rfl rfl rfl rfl (fun K hK => ws_call hF rfl (by decide) cl30_ln rfl rfl ?_)
  with_reducible refine (or_done w14 w15 rb2 R15 A15 [] c15 0 0 hA15 (by decide) (by decide)).mono ?_
  rintro e' w16 ⟨rfl, hA16⟩
  refine ⟨_, rfl, fun a hF => hK _ _ ?_⟩; clear hK K
  refine vc_yg hF rfl rfl rfl rfl rfl (by decide) _ (y_cmp (c := true) rfl rfl rfl rfl (by decide)) (fun a hF => ?_)
  refine vc_y hF rfl rfl (by decide) _ (y_pick rfl rfl rfl) (fun a hF => ?_)
  refine vc_y hF rfl rfl (by decide) _ (y_assign rfl rfl) (fun a hF => ?_)
  refine vc_nil ?_
  refine hK17 _ _ ?_; clear  hK17 K17
  apply wp_ret
  refine vc_ret1 hF Try.results5 rfl ?_
  have e1 : At w8 [] w14 := hA14.clear (cons_new hg9 hX9)
  have e2 : At w14 [] w16 := hA16.clear (cons_new hg15 hX15)
  have e3 : At w [] w8 := hA8.clear (fun r hr => by
    rcases List.mem_append.1 hr with hr | hr
    · rcases List.mem_append.1 hr with hr | hr
      · rcases List.mem_append.1 hr with hr | hr
        · exact one_new hg r hr
        · cases hr
      · exact hW7.1.new r hr
    · exact hO8.new r hr)
  exact ⟨rfl, (e3.then0 e1).then0 e2⟩
end Go.Proofs.Ythphfbohhbkdgaa
