/- EventBack walked: what Encode takes Decode gives back, and the other way. -/
import Derived.Test.YtepbmdlgdaedpaaGreatDoorEv9
namespace Go.Proofs.YtepbmdlgdaedpaaGreatDoor
open Go.RowKit Go.Dk

theorem rw31_v10 : isRow Tryz.prog 31 44 = true := by kernel_rfl
theorem cl15_v10 : CallsTo Tryz.prog 15 := ⟨_, Tryz.func15, by kernel_rfl, by kernel_rfl⟩
theorem cl20_v10 : CallsTo Tryz.prog 20 := ⟨_, Tryz.func20, by kernel_rfl, by kernel_rfl⟩
theorem cl21_v10 : CallsTo Tryz.prog 21 := ⟨_, Tryz.func21, by kernel_rfl, by kernel_rfl⟩
theorem cl22_v10 : CallsTo Tryz.prog 22 := ⟨_, Tryz.func22, by kernel_rfl, by kernel_rfl⟩
theorem cl23_v10 : CallsTo Tryz.prog 23 := ⟨_, Tryz.func23, by kernel_rfl, by kernel_rfl⟩


set_option maxRecDepth 100000 in
set_option maxHeartbeats 8000000 in
theorem law_back (w0 : World) (ea : EA) (A : Option Addr) (raw : List UInt8) (c : Nat) (hT : TabS w0) (hV : ea.Ok w0 []) (hR : Rd w0 [] A raw) (hl : raw.length ≤ 9223372036854775807) : Calls Tryz.prog 5 #[.agg ea.cells.toArray, .slice A raw.length c] w0 fun e W' => e = .returned (.bool true) ∧ At w0 [] W' := by
  have hA : Hp w0 [] w0 := Hp.start w0
  have he32 : ea.eff.length = 32 := hV.i.2.2.2.2.2
  refine vc_enter Tryz.func5 rfl Tryz.ntmps5 (Nat.le_of_ble_eq_true rfl) (fun a hF => ?_)
  apply wp_seq_k; intro K1 hK1
  refine wp_region_lit ?_
  refine vc_op rfl (fun K hK => hs_box (cs := ea.cells) hF rfl (by decide) rfl hA rfl (fun b1 w2 a hb1 hF hA3 => hK _ _ ?_))
  clear hK K
  replace hA3 : Hp w0 ([row b1 31 ([.int .i64 ea.op, .int .i64 ea.num, .int .i64 ea.clk, strV ea.typ, strV ea.cas, strV ea.nam, .int .i64 ea.v.v.k, .int .i64 ea.v.v.n, strV ea.v.v.t, .slice ea.v.sA ea.v.v.s.length ea.v.sC, .slice ea.aA ea.args.length ea.aC, .slice ea.bA ea.src.length ea.bC] ++ dc ea.eff)] :: []) w2 := hA3
  refine vc_y hF rfl rfl (by decide) _ (y_assign rfl rfl) (fun a hF => ?_)
  refine vc_nil ?_
  refine hK1 _ _ ?_; clear  hK1 K1
  apply wp_seq_k; intro K2 hK2
  refine wp_region_lit ?_
  refine vc_y hF rfl rfl (by decide) _ (y_ldRow (new := [.int .i64 ea.op, .int .i64 ea.num, .int .i64 ea.clk, strV ea.typ, strV ea.cas, strV ea.nam, .int .i64 ea.v.v.k, .int .i64 ea.v.v.n, strV ea.v.v.t, .slice ea.v.sA ea.v.v.s.length ea.v.sC, .slice ea.aA ea.args.length ea.aC, .slice ea.bA ea.src.length ea.bC] ++ dc ea.eff) rfl hA3.q rfl 0 rfl rw31_v10 (by rw [List.length_append, dc_length, he32]; exact Nat.le_of_ble_eq_true rfl) (by rw [List.drop_zero]; exact List.take_of_length_le (by rw [List.length_append, dc_length, he32]; exact Nat.le_of_ble_eq_true rfl))) (fun a hF => ?_)
  refine vc_op rfl (fun K hK => ws_call hF rfl (by decide) cl20_v10 rfl rfl ?_)
  with_reducible refine (ev_encode ea _ hT hV (List.nil_subset _) hA3 ).mono ?_
  rintro e' w4 ⟨vE1, ZE1, rfl, hZE1, hA5⟩
  refine ⟨_, rfl, fun a hF => hK _ _ ?_⟩
  clear hK K
  replace hA5 : Hp w0 (ZE1 :: [row b1 31 ([.int .i64 ea.op, .int .i64 ea.num, .int .i64 ea.clk, strV ea.typ, strV ea.cas, strV ea.nam, .int .i64 ea.v.v.k, .int .i64 ea.v.v.n, strV ea.v.v.t, .slice ea.v.sA ea.v.v.s.length ea.v.sC, .slice ea.aA ea.args.length ea.aC, .slice ea.bA ea.src.length ea.bC] ++ dc ea.eff)] :: []) w4 := hA5
  obtain ⟨_, AE1, cE1, rfl, hcE1, hRE1⟩ := hZE1.rd (w0 := w0) (R := [ZE1]) (List.mem_cons_self ..)
  obtain ⟨_, _, _, hle1, hlf1⟩ := hZE1.cap
  refine vc_y hF rfl rfl (by decide) _ (y_move rfl rfl) (fun a hF => ?_)
  refine vc_y hF rfl rfl (by decide) _ (y_extract (v := .slice AE1 ((encB ea.ev).length) cE1) rfl rfl rfl) (fun a hF => ?_)
  refine vc_y hF rfl rfl (by decide) _ (y_extract (v := .int .i64 ((encE ea.ev : Nat) : Int)) rfl rfl rfl) (fun a hF => ?_)
  refine vc_y hF rfl rfl (by decide) _ (y_assign rfl rfl) (fun a hF => ?_)
  refine vc_y hF rfl rfl (by decide) _ (y_assign rfl rfl) (fun a hF => ?_)
  refine vc_nil ?_
  refine hK2 _ _ ?_; clear  hK2 K2
  apply wp_seq_k; intro K3 hK3
  apply wp_seq_k; intro K4 hK4
  refine wp_region_lit ?_
  refine vc_y hF rfl rfl (by decide) _ (y_move rfl rfl) (fun a hF => ?_)
  refine vc_y hF rfl rfl (by decide) _ (y_cmp rfl rfl rfl rfl rfl) (fun a hF => ?_)
  refine vc_nil ?_
  refine hK4 _ _ ?_; clear  hK4 K4
  have hJ : ∀ (a : Act) (x : World), Fr 70 [(1, .slice A raw.length c)] a → Hp w0 [] x → K3 a x := by
    clear hF
    intro a x hF hA
    refine hK3 _ _ ?_; clear  hK3 K3
    apply wp_seq_k; intro K5 hK5
    refine wp_region_lit ?_
    refine vc_y hF rfl rfl (by decide) _ (y_move rfl rfl) (fun a hF => ?_)
    refine vc_op rfl (fun K hK => ws_call hF rfl (by decide) cl21_v10 rfl rfl ?_)
    with_reducible refine (ev_decode A raw c _ hT hR (List.nil_subset _) hl hA ).mono ?_
    rintro e' w6 ⟨ed, ZD2, rfl, hev2, hOk2, hA7⟩
    refine ⟨_, rfl, fun a hF => hK _ _ ?_⟩
    clear hK K
    replace hA7 : Hp w0 (ZD2 :: []) w6 := hA7
    have hd32 : ed.eff.length = 32 := hOk2.i.2.2.2.2.2
    refine vc_y hF rfl rfl (by decide) _ (y_move rfl rfl) (fun a hF => ?_)
    refine vc_y hF rfl rfl (by decide) _ (y_extract (v := .agg (ed.cells).toArray) rfl rfl rfl) (fun a hF => ?_)
    refine vc_y hF rfl rfl (by decide) _ (y_extract (v := .int .i64 ((decE raw : Nat) : Int)) rfl rfl rfl) (fun a hF => ?_)
    refine vc_op rfl (fun K hK => hs_alloc hF rfl (by decide) rfl hA7 ev_zE (fun b8 w9 a hb8 hF hA10 => hK _ _ ?_))
    clear hK K
    replace hA10 : Hp w0 ([row b8 31 noEA.cells] :: ZD2 :: []) w9 := hA10
    refine vc_op rfl (fun K hK => hs_storeAll (new := ed.cells) hF rfl rfl hA10 rfl rfl 0 rfl (by rw [List.length_append, dc_length, hd32]; rfl) (fun v hv => evc_one (e := ed) hv) ev_szE (fun w11 hA12 => hK _ _ ?_))
    clear hK K
    replace hA12 : Hp w0 ([row b8 31 ([.int .i64 ed.op, .int .i64 ed.num, .int .i64 ed.clk, strV ed.typ, strV ed.cas, strV ed.nam, .int .i64 ed.v.v.k, .int .i64 ed.v.v.n, strV ed.v.v.t, .slice ed.v.sA ed.v.v.s.length ed.v.sC, .slice ed.aA ed.args.length ed.aC, .slice ed.bA ed.src.length ed.bC] ++ dc ed.eff)] :: ZD2 :: []) w11 := hA12
    refine vc_y hF rfl rfl (by decide) _ (y_assign rfl rfl) (fun a hF => ?_)
    refine vc_nil ?_
    refine hK5 _ _ ?_; clear  hK5 K5
    apply wp_seq_k; intro K6 hK6
    apply wp_seq_k; intro K7 hK7
    refine wp_region_lit ?_
    refine vc_y hF rfl rfl (by decide) _ (y_move rfl rfl) (fun a hF => ?_)
    refine vc_y hF rfl rfl (by decide) _ (y_cmp rfl rfl rfl rfl rfl) (fun a hF => ?_)
    refine vc_nil ?_
    refine hK7 _ _ ?_; clear  hK7 K7
    by_cases hd : decOK raw
    · have hz : decE raw = 0 := if_pos hd
      have hed : ed.ev = (gotEv raw).v := hev2.trans (if_pos hd)
      have he0 : encE ed.ev = 0 := by rw [hed]; exact hd.2.2.2.2.1
      have heb : encB ed.ev = raw := by rw [hed]; exact hd.2.2.2.2.2
      refine vc_falseB hF rfl (by rw [hz] <;> rfl) ?_
      apply wp_skip
      refine hK6 _ _ ?_; clear  hK6 K6
      apply wp_seq_k; intro K8 hK8
      refine wp_region_lit ?_
      refine vc_y hF rfl rfl (by decide) _ (y_ldRow (new := [.int .i64 ed.op, .int .i64 ed.num, .int .i64 ed.clk, strV ed.typ, strV ed.cas, strV ed.nam, .int .i64 ed.v.v.k, .int .i64 ed.v.v.n, strV ed.v.v.t, .slice ed.v.sA ed.v.v.s.length ed.v.sC, .slice ed.aA ed.args.length ed.aC, .slice ed.bA ed.src.length ed.bC] ++ dc ed.eff) rfl hA12.q rfl 0 rfl rw31_v10 (by rw [List.length_append, dc_length, hd32]; exact Nat.le_of_ble_eq_true rfl) (by rw [List.drop_zero]; exact List.take_of_length_le (by rw [List.length_append, dc_length, hd32]; exact Nat.le_of_ble_eq_true rfl))) (fun a hF => ?_)
      refine vc_op rfl (fun K hK => ws_call hF rfl (by decide) cl20_v10 rfl rfl ?_)
      with_reducible refine (ev_encode ed _ hT hOk2 (List.cons_subset.2 ⟨(List.mem_cons_of_mem _ ((List.mem_cons_self ..))), List.nil_subset _⟩) hA12 ).mono ?_
      rintro e' w13 ⟨vE3, ZE3, rfl, hZE3, hA14⟩
      refine ⟨_, rfl, fun a hF => hK _ _ ?_⟩
      clear hK K
      replace hA14 : Hp w0 (ZE3 :: [row b8 31 ([.int .i64 ed.op, .int .i64 ed.num, .int .i64 ed.clk, strV ed.typ, strV ed.cas, strV ed.nam, .int .i64 ed.v.v.k, .int .i64 ed.v.v.n, strV ed.v.v.t, .slice ed.v.sA ed.v.v.s.length ed.v.sC, .slice ed.aA ed.args.length ed.aC, .slice ed.bA ed.src.length ed.bC] ++ dc ed.eff)] :: ZD2 :: []) w13 := hA14
      obtain ⟨_, AE3, cE3, rfl, hcE3, hRE3⟩ := hZE3.rd (w0 := w0) (R := [ZE3]) (List.mem_cons_self ..)
      obtain ⟨_, _, _, hle3, hlf3⟩ := hZE3.cap
      refine vc_y hF rfl rfl (by decide) _ (y_move rfl rfl) (fun a hF => ?_)
      refine vc_y hF rfl rfl (by decide) _ (y_extract (v := .slice AE3 ((encB ed.ev).length) cE3) rfl rfl rfl) (fun a hF => ?_)
      refine vc_y hF rfl rfl (by decide) _ (y_extract (v := .int .i64 ((encE ed.ev : Nat) : Int)) rfl rfl rfl) (fun a hF => ?_)
      refine vc_y hF rfl rfl (by decide) _ (y_assign rfl rfl) (fun a hF => ?_)
      refine vc_y hF rfl rfl (by decide) _ (y_assign rfl rfl) (fun a hF => ?_)
      refine vc_nil ?_
      refine hK8 _ _ ?_; clear  hK8 K8
      apply wp_seq_k; intro K9 hK9
      refine wp_region_lit ?_
      refine vc_y hF rfl rfl (by decide) _ (y_move rfl rfl) (fun a hF => ?_)
      refine vc_y hF rfl rfl (by decide) _ (y_cmp rfl rfl rfl rfl (by rw [he0] <;> rfl)) (fun a hF => ?_)
      refine vc_y hF rfl rfl (by decide) _ (y_move rfl rfl) (fun a hF => ?_)
      refine vc_yg hF rfl rfl rfl rfl (some_bool rfl) (by decide) _ (y_move rfl rfl) (fun a hF => ?_)
      refine vc_yg hF rfl rfl rfl rfl (some_bool rfl) (by decide) _ (y_move rfl rfl) (fun a hF => ?_)
      refine vc_opg hF rfl rfl rfl (some_bool rfl) (fun K hK => ws_call hF rfl (by decide) cl23_v10 rfl rfl ?_)
      with_reducible refine (ev_sameB _ (hRE3.mono (List.cons_subset.2 ⟨((List.mem_cons_self ..)), List.nil_subset _⟩)) (hR.mono (List.nil_subset _)) (Nat.le_trans hle3 hlf3) hA14 ).mono ?_
      rintro e' w15 ⟨rfl, hA16⟩
      refine ⟨_, rfl, fun a hF => hK _ _ ?_⟩
      clear hK K
      replace hA16 : Hp w0 (ZE3 :: [row b8 31 ([.int .i64 ed.op, .int .i64 ed.num, .int .i64 ed.clk, strV ed.typ, strV ed.cas, strV ed.nam, .int .i64 ed.v.v.k, .int .i64 ed.v.v.n, strV ed.v.v.t, .slice ed.v.sA ed.v.v.s.length ed.v.sC, .slice ed.aA ed.args.length ed.aC, .slice ed.bA ed.src.length ed.bC] ++ dc ed.eff)] :: ZD2 :: []) w15 := hA16
      rw [show decide (encB ed.ev = raw) = true from decide_eq_true heb] at hF
      refine vc_y hF rfl rfl (by decide) _ (y_pickT rfl rfl rfl rfl) (fun a hF => ?_)
      refine vc_y hF rfl rfl (by decide) _ (y_move rfl rfl) (fun a hF => ?_)
      refine vc_opg hF rfl rfl rfl (some_bool rfl) (fun K hK => ws_call hF rfl (by decide) cl15_v10 rfl rfl ?_)
      with_reducible refine (ev_known _ hT hA16 ).mono ?_
      rintro e' w17 ⟨rfl, hA18⟩
      refine ⟨_, rfl, fun a hF => hK _ _ ?_⟩
      clear hK K
      replace hA18 : Hp w0 (ZE3 :: [row b8 31 ([.int .i64 ed.op, .int .i64 ed.num, .int .i64 ed.clk, strV ed.typ, strV ed.cas, strV ed.nam, .int .i64 ed.v.v.k, .int .i64 ed.v.v.n, strV ed.v.v.t, .slice ed.v.sA ed.v.v.s.length ed.v.sC, .slice ed.aA ed.args.length ed.aC, .slice ed.bA ed.src.length ed.bC] ++ dc ed.eff)] :: ZD2 :: []) w17 := hA18
      refine vc_y hF rfl rfl (by decide) _ (y_pickT rfl rfl rfl rfl) (fun a hF => ?_)
      refine vc_y hF rfl rfl (by decide) _ (y_assign rfl rfl) (fun a hF => ?_)
      refine vc_nil ?_
      refine hK9 _ _ ?_; clear  hK9 K9
      apply wp_ret
      refine vc_ret1 hF Tryz.results5 rfl ?_
      have hA19 : Hp w0 ([]) w17 := Hp.sel [ZE3, [row b8 31 ([.int .i64 ed.op, .int .i64 ed.num, .int .i64 ed.clk, strV ed.typ, strV ed.cas, strV ed.nam, .int .i64 ed.v.v.k, .int .i64 ed.v.v.n, strV ed.v.v.t, .slice ed.v.sA ed.v.v.s.length ed.v.sC, .slice ed.aA ed.args.length ed.aC, .slice ed.bA ed.src.length ed.bC] ++ dc ed.eff)], ZD2] [] [] [0, 1, 2] hA18 rfl
      exact ⟨rfl, hA19.at0⟩
    · have hz : decE raw = 8 := if_neg hd
      have hed : ed.ev = noEA.ev := hev2.trans (if_neg hd)
      refine vc_trueB hF rfl (by rw [hz] <;> rfl) ?_
      apply wp_seq_k; intro K10 hK10
      refine wp_region_lit ?_
      refine vc_y hF rfl rfl (by decide) _ (y_move rfl rfl) (fun a hF => ?_)
      refine vc_y hF rfl rfl (by decide) _ (y_cmp rfl rfl rfl rfl (by rw [hz] <;> rfl)) (fun a hF => ?_)
      refine vc_y hF rfl rfl (by decide) _ (y_move rfl rfl) (fun a hF => ?_)
      refine vc_yg hF rfl rfl rfl rfl (some_bool rfl) (by decide) _ (y_ldRow (new := [.int .i64 ed.op, .int .i64 ed.num, .int .i64 ed.clk, strV ed.typ, strV ed.cas, strV ed.nam, .int .i64 ed.v.v.k, .int .i64 ed.v.v.n, strV ed.v.v.t, .slice ed.v.sA ed.v.v.s.length ed.v.sC, .slice ed.aA ed.args.length ed.aC, .slice ed.bA ed.src.length ed.bC] ++ dc ed.eff) rfl hA12.q rfl 0 rfl rw31_v10 (by rw [List.length_append, dc_length, hd32]; exact Nat.le_of_ble_eq_true rfl) (by rw [List.drop_zero]; exact List.take_of_length_le (by rw [List.length_append, dc_length, hd32]; exact Nat.le_of_ble_eq_true rfl))) (fun a hF => ?_)
      refine vc_yg hF rfl rfl rfl rfl (some_bool rfl) (by decide) _ (y_build0 rfl ev_bE0) (fun a hF => ?_)
      refine vc_opg hF rfl rfl rfl (some_bool rfl) (fun K hK => ws_call hF rfl (by decide) cl22_v10 rfl rfl ?_)
      with_reducible refine (ev_sameE ed noEA _ hOk2 (List.cons_subset.2 ⟨(List.mem_cons_of_mem _ ((List.mem_cons_self ..))), List.nil_subset _⟩) (noEA_ok (G := [])) (List.nil_subset _) hA12 ).mono ?_
      rintro e' w20 ⟨rfl, hA21⟩
      refine ⟨_, rfl, fun a hF => hK _ _ ?_⟩
      clear hK K
      replace hA21 : Hp w0 ([row b8 31 ([.int .i64 ed.op, .int .i64 ed.num, .int .i64 ed.clk, strV ed.typ, strV ed.cas, strV ed.nam, .int .i64 ed.v.v.k, .int .i64 ed.v.v.n, strV ed.v.v.t, .slice ed.v.sA ed.v.v.s.length ed.v.sC, .slice ed.aA ed.args.length ed.aC, .slice ed.bA ed.src.length ed.bC] ++ dc ed.eff)] :: ZD2 :: []) w20 := hA21
      rw [show decide (ed.ev = noEA.ev) = true from decide_eq_true hed] at hF
      refine vc_y hF rfl rfl (by decide) _ (y_pickT rfl rfl rfl rfl) (fun a hF => ?_)
      refine vc_y hF rfl rfl (by decide) _ (y_move rfl rfl) (fun a hF => ?_)
      refine vc_opg hF rfl rfl rfl (some_bool rfl) (fun K hK => ws_call hF rfl (by decide) cl15_v10 rfl rfl ?_)
      with_reducible refine (ev_known _ hT hA21 ).mono ?_
      rintro e' w22 ⟨rfl, hA23⟩
      refine ⟨_, rfl, fun a hF => hK _ _ ?_⟩
      clear hK K
      replace hA23 : Hp w0 ([row b8 31 ([.int .i64 ed.op, .int .i64 ed.num, .int .i64 ed.clk, strV ed.typ, strV ed.cas, strV ed.nam, .int .i64 ed.v.v.k, .int .i64 ed.v.v.n, strV ed.v.v.t, .slice ed.v.sA ed.v.v.s.length ed.v.sC, .slice ed.aA ed.args.length ed.aC, .slice ed.bA ed.src.length ed.bC] ++ dc ed.eff)] :: ZD2 :: []) w22 := hA23
      refine vc_y hF rfl rfl (by decide) _ (y_pickT rfl rfl rfl rfl) (fun a hF => ?_)
      refine vc_y hF rfl rfl (by decide) _ (y_assign rfl rfl) (fun a hF => ?_)
      refine vc_nil ?_
      refine hK10 _ _ ?_; clear  hK10 K10
      apply wp_ret
      simp only [Exit.then]
      refine vc_ret1 hF Tryz.results5 rfl ?_
      have hA24 : Hp w0 ([]) w22 := Hp.sel [[row b8 31 ([.int .i64 ed.op, .int .i64 ed.num, .int .i64 ed.clk, strV ed.typ, strV ed.cas, strV ed.nam, .int .i64 ed.v.v.k, .int .i64 ed.v.v.n, strV ed.v.v.t, .slice ed.v.sA ed.v.v.s.length ed.v.sC, .slice ed.aA ed.args.length ed.aC, .slice ed.bA ed.src.length ed.bC] ++ dc ed.eff)], ZD2] [] [] [0, 1] hA23 rfl
      exact ⟨rfl, hA24.at0⟩
  by_cases h0 : encE ea.ev = 0
  · obtain ⟨hd1, hd2⟩ := dec_enc hV.i h0
    have hlb := enc_len h0
    refine vc_trueB hF rfl (by rw [h0] <;> rfl) ?_
    apply wp_seq_k; intro K11 hK11
    refine wp_region_lit ?_
    refine vc_y hF rfl rfl (by decide) _ (y_move rfl rfl) (fun a hF => ?_)
    refine vc_op rfl (fun K hK => ws_call hF rfl (by decide) cl21_v10 rfl rfl ?_)
    with_reducible refine (ev_decode AE1 (encB ea.ev) cE1 _ hT hRE1 (List.cons_subset.2 ⟨((List.mem_cons_self ..)), List.nil_subset _⟩) (Nat.le_trans hle1 hlf1) hA5 ).mono ?_
    rintro e' w25 ⟨ex, ZD4, rfl, hev4, hOk4, hA26⟩
    refine ⟨_, rfl, fun a hF => hK _ _ ?_⟩
    clear hK K
    replace hA26 : Hp w0 (ZD4 :: ZE1 :: [row b1 31 ([.int .i64 ea.op, .int .i64 ea.num, .int .i64 ea.clk, strV ea.typ, strV ea.cas, strV ea.nam, .int .i64 ea.v.v.k, .int .i64 ea.v.v.n, strV ea.v.v.t, .slice ea.v.sA ea.v.v.s.length ea.v.sC, .slice ea.aA ea.args.length ea.aC, .slice ea.bA ea.src.length ea.bC] ++ dc ea.eff)] :: []) w25 := hA26
    have hx32 : ex.eff.length = 32 := hOk4.i.2.2.2.2.2
    refine vc_y hF rfl rfl (by decide) _ (y_move rfl rfl) (fun a hF => ?_)
    refine vc_y hF rfl rfl (by decide) _ (y_extract (v := .agg (ex.cells).toArray) rfl rfl rfl) (fun a hF => ?_)
    refine vc_y hF rfl rfl (by decide) _ (y_extract (v := .int .i64 ((decE (encB ea.ev) : Nat) : Int)) rfl rfl rfl) (fun a hF => ?_)
    refine vc_op rfl (fun K hK => hs_alloc hF rfl (by decide) rfl hA26 ev_zE (fun b27 w28 a hb27 hF hA29 => hK _ _ ?_))
    clear hK K
    replace hA29 : Hp w0 ([row b27 31 noEA.cells] :: ZD4 :: ZE1 :: [row b1 31 ([.int .i64 ea.op, .int .i64 ea.num, .int .i64 ea.clk, strV ea.typ, strV ea.cas, strV ea.nam, .int .i64 ea.v.v.k, .int .i64 ea.v.v.n, strV ea.v.v.t, .slice ea.v.sA ea.v.v.s.length ea.v.sC, .slice ea.aA ea.args.length ea.aC, .slice ea.bA ea.src.length ea.bC] ++ dc ea.eff)] :: []) w28 := hA29
    refine vc_op rfl (fun K hK => hs_storeAll (new := ex.cells) hF rfl rfl hA29 rfl rfl 0 rfl (by rw [List.length_append, dc_length, hx32]; rfl) (fun v hv => evc_one (e := ex) hv) ev_szE (fun w30 hA31 => hK _ _ ?_))
    clear hK K
    replace hA31 : Hp w0 ([row b27 31 ([.int .i64 ex.op, .int .i64 ex.num, .int .i64 ex.clk, strV ex.typ, strV ex.cas, strV ex.nam, .int .i64 ex.v.v.k, .int .i64 ex.v.v.n, strV ex.v.v.t, .slice ex.v.sA ex.v.v.s.length ex.v.sC, .slice ex.aA ex.args.length ex.aC, .slice ex.bA ex.src.length ex.bC] ++ dc ex.eff)] :: ZD4 :: ZE1 :: [row b1 31 ([.int .i64 ea.op, .int .i64 ea.num, .int .i64 ea.clk, strV ea.typ, strV ea.cas, strV ea.nam, .int .i64 ea.v.v.k, .int .i64 ea.v.v.n, strV ea.v.v.t, .slice ea.v.sA ea.v.v.s.length ea.v.sC, .slice ea.aA ea.args.length ea.aC, .slice ea.bA ea.src.length ea.bC] ++ dc ea.eff)] :: []) w30 := hA31
    refine vc_y hF rfl rfl (by decide) _ (y_assign rfl rfl) (fun a hF => ?_)
    refine vc_nil ?_
    refine hK11 _ _ ?_; clear  hK11 K11
    apply wp_seq_k; intro K12 hK12
    refine wp_region_lit ?_
    refine vc_y hF rfl rfl (by decide) _ (y_move rfl rfl) (fun a hF => ?_)
    refine vc_y hF rfl rfl (by decide) _ (y_cmp rfl rfl rfl rfl (by rw [hd1] <;> rfl)) (fun a hF => ?_)
    refine vc_y hF rfl rfl (by decide) _ (y_move rfl rfl) (fun a hF => ?_)
    refine vc_yg hF rfl rfl rfl rfl (some_bool rfl) (by decide) _ (y_ldRow (new := [.int .i64 ex.op, .int .i64 ex.num, .int .i64 ex.clk, strV ex.typ, strV ex.cas, strV ex.nam, .int .i64 ex.v.v.k, .int .i64 ex.v.v.n, strV ex.v.v.t, .slice ex.v.sA ex.v.v.s.length ex.v.sC, .slice ex.aA ex.args.length ex.aC, .slice ex.bA ex.src.length ex.bC] ++ dc ex.eff) rfl hA31.q rfl 0 rfl rw31_v10 (by rw [List.length_append, dc_length, hx32]; exact Nat.le_of_ble_eq_true rfl) (by rw [List.drop_zero]; exact List.take_of_length_le (by rw [List.length_append, dc_length, hx32]; exact Nat.le_of_ble_eq_true rfl))) (fun a hF => ?_)
    refine vc_yg hF rfl rfl rfl rfl (some_bool rfl) (by decide) _ (y_ldRow (new := [.int .i64 ea.op, .int .i64 ea.num, .int .i64 ea.clk, strV ea.typ, strV ea.cas, strV ea.nam, .int .i64 ea.v.v.k, .int .i64 ea.v.v.n, strV ea.v.v.t, .slice ea.v.sA ea.v.v.s.length ea.v.sC, .slice ea.aA ea.args.length ea.aC, .slice ea.bA ea.src.length ea.bC] ++ dc ea.eff) rfl hA31.q rfl 3 rfl rw31_v10 (by rw [List.length_append, dc_length, he32]; exact Nat.le_of_ble_eq_true rfl) (by rw [List.drop_zero]; exact List.take_of_length_le (by rw [List.length_append, dc_length, he32]; exact Nat.le_of_ble_eq_true rfl))) (fun a hF => ?_)
    refine vc_opg hF rfl rfl rfl (some_bool rfl) (fun K hK => ws_call hF rfl (by decide) cl22_v10 rfl rfl ?_)
    with_reducible refine (ev_sameE ex ea _ hOk4 (List.cons_subset.2 ⟨(List.mem_cons_of_mem _ ((List.mem_cons_self ..))), List.nil_subset _⟩) hV (List.nil_subset _) hA31 ).mono ?_
    rintro e' w32 ⟨rfl, hA33⟩
    refine ⟨_, rfl, fun a hF => hK _ _ ?_⟩
    clear hK K
    replace hA33 : Hp w0 ([row b27 31 ([.int .i64 ex.op, .int .i64 ex.num, .int .i64 ex.clk, strV ex.typ, strV ex.cas, strV ex.nam, .int .i64 ex.v.v.k, .int .i64 ex.v.v.n, strV ex.v.v.t, .slice ex.v.sA ex.v.v.s.length ex.v.sC, .slice ex.aA ex.args.length ex.aC, .slice ex.bA ex.src.length ex.bC] ++ dc ex.eff)] :: ZD4 :: ZE1 :: [row b1 31 ([.int .i64 ea.op, .int .i64 ea.num, .int .i64 ea.clk, strV ea.typ, strV ea.cas, strV ea.nam, .int .i64 ea.v.v.k, .int .i64 ea.v.v.n, strV ea.v.v.t, .slice ea.v.sA ea.v.v.s.length ea.v.sC, .slice ea.aA ea.args.length ea.aC, .slice ea.bA ea.src.length ea.bC] ++ dc ea.eff)] :: []) w32 := hA33
    rw [show decide (ex.ev = ea.ev) = true from decide_eq_true (hev4.trans hd2)] at hF
    refine vc_yg hF rfl rfl rfl rfl (some_bool rfl) (by decide) _ (y_not rfl rfl rfl) (fun a hF => ?_)
    refine vc_y hF rfl rfl (by decide) _ (y_pickF rfl rfl rfl rfl) (fun a hF => ?_)
    refine vc_y hF rfl rfl (by decide) _ (y_move rfl rfl) (fun a hF => ?_)
    refine vc_yg hF rfl rfl rfl rfl (some_bool rfl) (by decide) _ (y_move rfl rfl) (fun a hF => ?_)
    refine vc_yg hF rfl rfl rfl rfl (some_bool rfl) (by decide) _ (y_lenSl rfl Tryz.underlying27 rfl rfl) (fun a hF => ?_)
    refine vc_yg hF rfl rfl rfl rfl (some_bool rfl) (by decide) _ (y_cmp rfl rfl rfl rfl (gtr_f (by omega))) (fun a hF => ?_)
    refine vc_y hF rfl rfl (by decide) _ (y_pickF rfl rfl rfl rfl) (fun a hF => ?_)
    refine vc_nil ?_
    refine hK12 _ _ ?_; clear  hK12 K12
    refine vc_falseB hF rfl rfl ?_
    apply wp_skip
    have hA34 : Hp w0 ([]) w32 := Hp.sel [[row b27 31 ([.int .i64 ex.op, .int .i64 ex.num, .int .i64 ex.clk, strV ex.typ, strV ex.cas, strV ex.nam, .int .i64 ex.v.v.k, .int .i64 ex.v.v.n, strV ex.v.v.t, .slice ex.v.sA ex.v.v.s.length ex.v.sC, .slice ex.aA ex.args.length ex.aC, .slice ex.bA ex.src.length ex.bC] ++ dc ex.eff)], ZD4, ZE1, [row b1 31 ([.int .i64 ea.op, .int .i64 ea.num, .int .i64 ea.clk, strV ea.typ, strV ea.cas, strV ea.nam, .int .i64 ea.v.v.k, .int .i64 ea.v.v.n, strV ea.v.v.t, .slice ea.v.sA ea.v.v.s.length ea.v.sC, .slice ea.aA ea.args.length ea.aC, .slice ea.bA ea.src.length ea.bC] ++ dc ea.eff)]] [] [] [0, 1, 2, 3] hA33 rfl
    exact hJ _ _ (hF.keep [1] rfl) hA34
  · refine vc_falseB hF rfl (by simp [cmpB]; omega) ?_
    apply wp_skip
    have hA35 : Hp w0 ([]) w4 := Hp.sel [ZE1, [row b1 31 ([.int .i64 ea.op, .int .i64 ea.num, .int .i64 ea.clk, strV ea.typ, strV ea.cas, strV ea.nam, .int .i64 ea.v.v.k, .int .i64 ea.v.v.n, strV ea.v.v.t, .slice ea.v.sA ea.v.v.s.length ea.v.sC, .slice ea.aA ea.args.length ea.aC, .slice ea.bA ea.src.length ea.bC] ++ dc ea.eff)]] [] [] [0, 1] hA5 rfl
    exact hJ _ _ (hF.keep [1] rfl) hA35
end Go.Proofs.YtepbmdlgdaedpaaGreatDoor
