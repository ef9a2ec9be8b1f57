/- The sums of a sparse tree of one key. -/
import Derived.Test.YtpomngkcfbnjoaaDoorSpR
import Derived.Test.YtpomngkcfbnjoaaDoorMore
namespace Go.Proofs.YtpomngkcfbnjoaaDoor
open Go.RowKit Go.Dk

theorem rx_build3 (width : Int) (A : Option Addr) (c wb : Nat) (w : World) : (Instr.build 102 #[(0, .int .i64 width), (1, .slice A 257 c), (2, .func (.func 82) #[] #[.pointer (some ⟨wb, 0, none⟩)])]).run Tryd.prog w = .ok (.agg ([.int .i64 width, .slice A 257 c, .func (.func 82) #[] #[.pointer (some ⟨wb, 0, none⟩)]] : List Value).toArray) w := by kernel_rfl
set_option maxRecDepth 100000 in
theorem rx_node0 (f g : Nat → UInt8) (c : Int) (w : World) : (Instr.build 107 #[(0, .agg (dc ((List.range 32).map f)).toArray), (1, .agg (.int .i64 c :: dc ((List.range 32).map g)).toArray), (2, .int .i64 1), (3, .int .i64 256)]).run Tryd.prog w = .ok (.agg (leafC ⟨(List.range 32).map f, c, (List.range 32).map g⟩).toArray) w := by kernel_rfl
theorem rx_node {i : Itm} (h : i.OK) (w : World) : (Instr.build 107 #[(0, .agg (dc i.k).toArray), (1, .agg (.int .i64 i.ct :: dc i.ch).toArray), (2, .int .i64 1), (3, .int .i64 256)]).run Tryd.prog w = .ok (.agg (leafC i).toArray) w := by
  have h1 := rx_node0 (bAt i.k) (bAt i.ch) i.ct w
  rw [list32 h.k, list32 h.ch] at h1
  exact h1
theorem nr3_s9 : notRow Tryd.prog 3 = true := by kernel_rfl
theorem nr43_s9 : notRow Tryd.prog 43 = true := by kernel_rfl
theorem nr100_s9 : notRow Tryd.prog 100 = true := by kernel_rfl
theorem rw23_s9 : isRow Tryd.prog 23 32 = true := by kernel_rfl
theorem rw25_s9 : isRow Tryd.prog 25 33 = true := by kernel_rfl
theorem sz3_s9 : (Tryd.prog.info? 3).map (·.size) = some 1 := by kernel_rfl
theorem sz23_s9 : (Tryd.prog.info? 23).map (·.size) = some 32 := by kernel_rfl
theorem sz25_s9 : (Tryd.prog.info? 25).map (·.size) = some 33 := by kernel_rfl
theorem sz43_s9 : (Tryd.prog.info? 43).map (·.size) = some 1 := by kernel_rfl
theorem sz100_s9 : (Tryd.prog.info? 100).map (·.size) = some 1 := by kernel_rfl
theorem cl76_s9 : CallsTo Tryd.prog 76 := ⟨_, Tryd.func76, by kernel_rfl, by kernel_rfl⟩
theorem cl82_s9 : CallsTo Tryd.prog 82 := ⟨_, Tryd.func82, by kernel_rfl, by kernel_rfl⟩
theorem cl83_s9 : CallsTo Tryd.prog 83 := ⟨_, Tryd.func83, by kernel_rfl, by kernel_rfl⟩
theorem cl96_s9 : CallsTo Tryd.prog 96 := ⟨_, Tryd.func96, by kernel_rfl, by kernel_rfl⟩

theorem zr23_s9 : zeroIs Tryd.prog 23 (.agg (dc (List.replicate 32 0)).toArray) := by unfold zeroIs; kernel_rfl
set_option maxRecDepth 100000 in
set_option maxHeartbeats 2000000 in
theorem rx_end0 (w0 w : World) (R G : List Seg) (hG : G ⊆ R) (i : Itm) (hi : i.OK) (width : Int) (wb : Nat) (hs2 : Rw w0 G wb [.int .i64 width]) (hT : Tab w0) (hA : Hp w0 R w) : Calls Tryd.prog 82 #[.agg (dc i.k).toArray, .agg (.int .i64 i.ct :: dc i.ch).toArray, .pointer (some ⟨wb, 0, none⟩)] w fun e w' => e = .returned (.agg (dc (entryD width i)).toArray) ∧ Hp w0 R w' := by
  have hdk : (dc i.k).length = 32 := by rw [dc_length, hi.k]
  have hde : (Value.int .i64 i.ct :: dc i.ch).length = 33 := by rw [List.length_cons, dc_length, hi.ch]
  refine vc_enter Tryd.func82 rfl Tryd.ntmps82 (Nat.le_of_ble_eq_true rfl) (fun a hF => ?_)
  apply wp_seq_k; intro K1 hK1
  refine wp_region_lit ?_
  refine vc_op rfl (fun K hK => hs_box (cs := dc i.k) hF rfl (by decide) rfl hA rfl (fun b1 w2 a hb1 hF hA3 => hK _ _ ?_))
  clear hK K
  replace hA3 : Hp w0 ([row b1 23 (dc i.k)] :: R) w2 := hA3
  refine vc_op rfl (fun K hK => hs_box (cs := .int .i64 i.ct :: dc i.ch) hF rfl (by decide) rfl hA3 rfl (fun b4 w5 a hb4 hF hA6 => hK _ _ ?_))
  clear hK K
  replace hA6 : Hp w0 ([row b4 25 (.int .i64 i.ct :: dc i.ch)] :: [row b1 23 (dc i.k)] :: R) w5 := hA6
  refine vc_op rfl (fun K hK => hs_alloc hF rfl (by decide) rfl hA6 (zr23_s9) (fun b7 w8 a hb7 hF hA9 => hK _ _ ?_))
  clear hK K
  replace hA9 : Hp w0 ([row b7 23 (dc (List.replicate 32 0))] :: [row b4 25 (.int .i64 i.ct :: dc i.ch)] :: [row b1 23 (dc i.k)] :: R) w8 := hA9
  refine vc_nil ?_
  refine hK1 _ _ ?_; clear  hK1 K1
  apply wp_seq_k; intro K2 hK2
  have hdd : (dc (entryD width i)).length = 32 := by rw [dc_length, entryD_length]
  refine wp_region_lit ?_
  refine vc_y hF rfl rfl (by decide) _ (y_ldC rfl (Hq.sub hA9.q (List.Subset.trans hG (subC (subC (subC (sub0)))))) rfl hs2 0 (by simp) rfl rfl nr3_s9) (fun a hF => ?_)
  refine vc_y hF rfl rfl (by decide) _ (y_ldRow (new := dc i.k) rfl hA9.q rfl 2 rfl rw23_s9 (by rw [hdk]; exact Nat.le_refl _) (by rw [List.drop_zero]; exact List.take_of_length_le (by rw [hdk]; exact Nat.le_refl _))) (fun a hF => ?_)
  refine vc_y hF rfl rfl (by decide) _ (y_ldRow (new := .int .i64 i.ct :: dc i.ch) rfl hA9.q rfl 1 rfl rw25_s9 (by rw [hde]; exact Nat.le_refl _) (by rw [List.drop_zero]; exact List.take_of_length_le (by rw [hde]; exact Nat.le_refl _))) (fun a hF => ?_)
  refine vc_op rfl (fun K hK => ws_call hF rfl (by decide) cl83_s9 rfl rfl ?_)
  with_reducible refine (tt_entry w0 _ ([row b7 23 (dc (List.replicate 32 0))] :: [row b4 25 (.int .i64 i.ct :: dc i.ch)] :: [row b1 23 (dc i.k)] :: R) width i.ct i.k i.ch hi.k hi.ch hT hA9 ).mono ?_
  rintro e' w10 ⟨rfl, hA11⟩
  refine ⟨_, rfl, fun a hF => hK _ _ ?_⟩
  clear hK K
  replace hA11 : Hp w0 ([row b7 23 (dc (List.replicate 32 0))] :: [row b4 25 (.int .i64 i.ct :: dc i.ch)] :: [row b1 23 (dc i.k)] :: R) w10 := hA11
  rw [show ofL width 3 (i.k ++ be 8 (c64 i.ct) ++ i.ch) = entryD width i from rfl] at hF
  refine vc_op rfl (fun K hK => hs_storeAll (new := dc (entryD width i)) hF rfl rfl hA11 rfl rfl 0 rfl (by rw [hdd]; rfl) (dc_one _) sz23_s9 (fun w12 hA13 => hK _ _ ?_))
  clear hK K
  replace hA13 : Hp w0 ([row b7 23 (dc (entryD width i))] :: [row b4 25 (.int .i64 i.ct :: dc i.ch)] :: [row b1 23 (dc i.k)] :: R) w12 := hA13
  refine vc_nil ?_
  refine hK2 _ _ ?_; clear  hK2 K2
  apply wp_ret
  refine vc_retR hF Tryd.results82 hA13.q rfl 0 rfl (by rw [hdd]; exact rw23_s9) ?_
  have hA14 : Hp w0 (R) w12 := Hp.sel [[row b7 23 (dc (entryD width i))], [row b4 25 (.int .i64 i.ct :: dc i.ch)], [row b1 23 (dc i.k)]] R [] [0, 1, 2] hA13 rfl
  exact ⟨rfl, hA14⟩

theorem rx_end (w0 w : World) (R G : List Seg) (hG : G ⊆ R) (i : Itm) (hi : i.OK) (width : Int) (wb : Nat) (hs2 : Rw w0 G wb [.int .i64 width]) (hT : Tab w0) (hA : Hp w0 R w) : Calls Tryd.prog 82 ([.agg (dc i.k).toArray, .agg (.int .i64 i.ct :: dc i.ch).toArray] ++ [.pointer (some ⟨wb, 0, none⟩)] : List Value).toArray w fun e w' => e = .returned (.agg (dc (entryD width i)).toArray) ∧ Hp w0 R w' :=
  rx_end0 w0 w R G hG i hi width wb hs2 hT hA

set_option maxRecDepth 100000 in
set_option maxHeartbeats 2000000 in
theorem rx_own (w0 w : World) (R G : List Seg) (hG : G ⊆ R) (i : Itm) (hi : i.OK) (gn : Nat) (hN : Rw w0 G gn (leafC i)) (gs : Nat) (width : Int) (hSm : Sm w0 G 82 gs width) (hT : Tab w0) (hA : Hp w0 R w) : Calls Tryd.prog 84 #[.pointer (some ⟨gs, 0, none⟩), .pointer (some ⟨gn, 0, none⟩)] w fun e w' => e = .returned (.agg (dc (entryD width i)).toArray) ∧ Hp w0 R w' := by
  obtain ⟨AE, cE, wb, hs1, hs2, hs3⟩ := hSm
  refine vc_enter Tryd.func84 rfl Tryd.ntmps84 (Nat.le_of_ble_eq_true rfl) (fun a hF => ?_)
  apply wp_seq_k; intro K1 hK1
  refine wp_region_lit ?_
  refine vc_op rfl (fun K hK => hs_alloc hF rfl (by decide) rfl hA (zr23_s9) (fun b1 w2 a hb1 hF hA3 => hK _ _ ?_))
  clear hK K
  replace hA3 : Hp w0 ([row b1 23 (dc (List.replicate 32 0))] :: R) w2 := hA3
  refine vc_nil ?_
  refine hK1 _ _ ?_; clear  hK1 K1
  apply wp_seq_k; intro K2 hK2
  apply wp_seq_k; intro K3 hK3
  refine wp_region_lit ?_
  refine vc_y hF rfl rfl (by decide) _ (y_move rfl rfl) (fun a hF => ?_)
  refine vc_y hF rfl rfl (by decide) _ (y_nilCheck rfl rfl) (fun a hF => ?_)
  refine vc_y hF rfl rfl (by decide) _ (y_field rfl Tryd.underlying107 rfl sz3_s9 (by decide) rfl (rfl : (⟨_, 0 + _, none⟩ : Addr) = ⟨_, 66, none⟩)) (fun a hF => ?_)
  refine vc_y hF rfl rfl (by decide) _ (y_ldC rfl (Hq.sub hA3.q (List.Subset.trans hG (subC (sub0)))) rfl hN 66 (by rw [leafC_len hi]; decide) rfl (leafC_bit hi) nr3_s9) (fun a hF => ?_)
  refine vc_y hF rfl rfl (by decide) _ (y_cmp rfl rfl rfl rfl (eql_t (by omega))) (fun a hF => ?_)
  refine vc_nil ?_
  refine hK3 _ _ ?_; clear  hK3 K3
  refine vc_true hF rfl ?_
  have hdd : (dc (entryD width i)).length = 32 := by rw [dc_length, entryD_length]
  apply wp_seq_k; intro K4 hK4
  refine wp_region_plan 13 [12,13] [0,1,2,3,4,5,6,7,8,9,10,11,12,13] (fun x => Hq w0 ([row b1 23 (dc (List.replicate 32 0))] :: R) x) (by kernel_rfl) (by kernel_rfl) (Hq.drew (Hp.qp [[row b1 23 (dc (List.replicate 32 0))]] R [0] hA3)) ?_
  have hA4 := Hl.drew hA3
  refine vp_y hF rfl rfl rfl rfl (by decide) _ (fun x hx => y_move rfl rfl) (fun a hF => ?_)
  refine vp_y hF rfl rfl rfl rfl (by decide) _ (fun x hx => y_nilCheck rfl rfl) (fun a hF => ?_)
  refine vp_y hF rfl rfl rfl rfl (by decide) _ (fun x hx => y_field rfl Tryd.underlying102 rfl sz100_s9 (by decide) rfl (rfl : (⟨_, 0 + _, none⟩ : Addr) = ⟨_, 2, none⟩)) (fun a hF => ?_)
  refine vp_y hF rfl rfl rfl rfl (by decide) _ (fun x hx => y_ldC rfl (Hq.sub hx (List.Subset.trans hG (subC (sub0)))) rfl hs1 2 (by simp) rfl rfl nr100_s9) (fun a hF => ?_)
  refine vp_y hF rfl rfl rfl rfl (by decide) _ (fun x hx => y_move rfl rfl) (fun a hF => ?_)
  refine vp_y hF rfl rfl rfl rfl (by decide) _ (fun x hx => y_nilCheck rfl rfl) (fun a hF => ?_)
  refine vp_y hF rfl rfl rfl rfl (by decide) _ (fun x hx => y_field rfl Tryd.underlying107 rfl sz23_s9 (by decide) rfl (rfl : (⟨_, 0 + _, none⟩ : Addr) = ⟨_, 0, none⟩)) (fun a hF => ?_)
  refine vp_y hF rfl rfl rfl rfl (by decide) _ (fun x hx => y_ldRowC rfl (Hq.sub hx (List.Subset.trans hG (subC (sub0)))) rfl hN 0 (by rw [leafC_len hi]; decide) rfl (leafC_key hi) rw23_s9) (fun a hF => ?_)
  refine vp_y hF rfl rfl rfl rfl (by decide) _ (fun x hx => y_move rfl rfl) (fun a hF => ?_)
  refine vp_y hF rfl rfl rfl rfl (by decide) _ (fun x hx => y_nilCheck rfl rfl) (fun a hF => ?_)
  refine vp_y hF rfl rfl rfl rfl (by decide) _ (fun x hx => y_field rfl Tryd.underlying107 rfl sz25_s9 (by decide) rfl (rfl : (⟨_, 0 + _, none⟩ : Addr) = ⟨_, 32, none⟩)) (fun a hF => ?_)
  refine vp_y hF rfl rfl rfl rfl (by decide) _ (fun x hx => y_ldRowC rfl (Hq.sub hx (List.Subset.trans hG (subC (sub0)))) rfl hN 32 (by rw [leafC_len hi]; decide) rfl (leafC_ent hi) rw25_s9) (fun a hF => ?_)
  refine vp_l rfl rfl rfl (fun K hK => ws_callC hF rfl (by decide) cl82_s9 rfl rfl rfl ?_)
  with_reducible refine (rx_end w0 _ ([row b1 23 (dc (List.replicate 32 0))] :: R) G (List.Subset.trans hG (subC (sub0))) i hi width wb hs2 hT hA4 ).mono ?_
  rintro e' w5 ⟨rfl, hA6⟩
  refine ⟨_, rfl, fun a hF => hK _ _ (fun _ => ?_) ?_⟩
  · exact Hp.qp [[row b1 23 (dc (List.replicate 32 0))]] R [0] hA6
  clear hK K
  replace hA6 : Hp w0 ([row b1 23 (dc (List.replicate 32 0))] :: R) w5 := hA6
  refine vp_l rfl rfl rfl (fun K hK => hs_storeAll (new := dc (entryD width i)) hF rfl rfl hA6 rfl rfl 0 rfl (by rw [hdd]; rfl) (dc_one _) sz23_s9 (fun w7 hA8 => hK _ _ (fun h => absurd h (by decide)) ?_))
  clear hK K
  replace hA8 : Hp w0 ([row b1 23 (dc (entryD width i))] :: R) w7 := hA8
  refine plan_end ?_
  refine hK4 _ _ ?_; clear  hK4 K4
  apply wp_ret
  simp only [Exit.then]
  refine vc_retR hF Tryd.results84 hA8.q rfl 0 rfl (by rw [hdd]; exact rw23_s9) ?_
  have hA9 : Hp w0 (R) w7 := Hp.sel [[row b1 23 (dc (entryD width i))]] R [] [0] hA8 rfl
  exact ⟨rfl, hA9⟩

set_option maxRecDepth 100000 in
set_option maxHeartbeats 2000000 in
theorem rx_branch (w0 w : World) (R G : List Seg) (hG : G ⊆ R) (gs : Nat) (width : Int) (k d n : List UInt8) (h : Nat) (hh : h < 256) (hk : k.length = 32) (hd : d.length = 32) (hn : n.length = 32) (hSm : Sm w0 G 82 gs width) (hT : Tab w0) (hA : Hp w0 R w) : Calls Tryd.prog 86 #[.pointer (some ⟨gs, 0, none⟩), .agg (dc k).toArray, .int .i64 (h : Int), .agg (dc d).toArray, .agg (dc n).toArray] w fun e w' => e = .returned (.agg (dc (sideD width k d n h)).toArray) ∧ Hp w0 R w' := by
  obtain ⟨AE, cE, wb, hs1, hs2, hs3⟩ := hSm
  have hdk : (dc k).length = 32 := by rw [dc_length, hk]
  have hdd : (dc d).length = 32 := by rw [dc_length, hd]
  have hdn : (dc n).length = 32 := by rw [dc_length, hn]
  have hds : (dc (sideD width k d n h)).length = 32 := by rw [dc_length, sideD_length]
  refine vc_enter Tryd.func86 rfl Tryd.ntmps86 (Nat.le_of_ble_eq_true rfl) (fun a hF => ?_)
  apply wp_seq_k; intro K1 hK1
  refine wp_region_lit ?_
  refine vc_op rfl (fun K hK => hs_box (cs := dc k) hF rfl (by decide) rfl hA rfl (fun b1 w2 a hb1 hF hA3 => hK _ _ ?_))
  clear hK K
  replace hA3 : Hp w0 ([row b1 23 (dc k)] :: R) w2 := hA3
  refine vc_op rfl (fun K hK => hs_box (cs := dc d) hF rfl (by decide) rfl hA3 rfl (fun b4 w5 a hb4 hF hA6 => hK _ _ ?_))
  clear hK K
  replace hA6 : Hp w0 ([row b4 23 (dc d)] :: [row b1 23 (dc k)] :: R) w5 := hA6
  refine vc_op rfl (fun K hK => hs_box (cs := dc n) hF rfl (by decide) rfl hA6 rfl (fun b7 w8 a hb7 hF hA9 => hK _ _ ?_))
  clear hK K
  replace hA9 : Hp w0 ([row b7 23 (dc n)] :: [row b4 23 (dc d)] :: [row b1 23 (dc k)] :: R) w8 := hA9
  refine vc_op rfl (fun K hK => hs_alloc hF rfl (by decide) rfl hA9 (zr23_s9) (fun b10 w11 a hb10 hF hA12 => hK _ _ ?_))
  clear hK K
  replace hA12 : Hp w0 ([row b10 23 (dc (List.replicate 32 0))] :: [row b7 23 (dc n)] :: [row b4 23 (dc d)] :: [row b1 23 (dc k)] :: R) w11 := hA12
  refine vc_nil ?_
  refine hK1 _ _ ?_; clear  hK1 K1
  apply wp_seq_k; intro K2 hK2
  apply wp_seq_k; intro K3 hK3
  have hkc := keyBit_cases k (255 - h)
  by_cases hkb : keyBit k (255 - h) = 0
  · refine wp_region_lit ?_
    refine vc_y hF rfl rfl (by decide) _ (y_ldRow (new := dc k) rfl hA12.q rfl 3 rfl rw23_s9 (by rw [hdk]; exact Nat.le_refl _) (by rw [List.drop_zero]; exact List.take_of_length_le (by rw [hdk]; exact Nat.le_refl _))) (fun a hF => ?_)
    refine vc_y hF rfl rfl (by decide) _ (y_move rfl rfl) (fun a hF => ?_)
    refine vc_y hF rfl rfl (by decide) _ (y_sub rfl rfl rfl (show IntKind.i64.wrap (255 - (h : Int)) = ((255 - h : Nat) : Int) by rw [IntWalk.i64_in _ (by omega)]; omega)) (fun a hF => ?_)
    refine vc_op rfl (fun K hK => ws_call hF rfl (by decide) cl76_s9 rfl rfl ?_)
    with_reducible refine (sp_bit w0 _ ([row b10 23 (dc (List.replicate 32 0))] :: [row b7 23 (dc n)] :: [row b4 23 (dc d)] :: [row b1 23 (dc k)] :: R) k (255 - h) hk (by omega) hA12 ).mono ?_
    rintro e' w13 ⟨rfl, hA14⟩
    refine ⟨_, rfl, fun a hF => hK _ _ ?_⟩
    clear hK K
    replace hA14 : Hp w0 ([row b10 23 (dc (List.replicate 32 0))] :: [row b7 23 (dc n)] :: [row b4 23 (dc d)] :: [row b1 23 (dc k)] :: R) w13 := hA14
    refine vc_y hF rfl rfl (by decide) _ (y_cmp rfl rfl rfl rfl (eql_t (by omega))) (fun a hF => ?_)
    refine vc_nil ?_
    refine hK3 _ _ ?_; clear  hK3 K3
    refine vc_true hF rfl ?_
    apply wp_seq_k; intro K4 hK4
    refine wp_region_plan 7 [6,7] [0,1,2,3,4,5,6,7] (fun x => Hq w0 ([row b10 23 (dc (List.replicate 32 0))] :: [row b7 23 (dc n)] :: [row b4 23 (dc d)] :: [row b1 23 (dc k)] :: R) x) (by kernel_rfl) (by kernel_rfl) (Hq.drew (Hp.qp [[row b10 23 (dc (List.replicate 32 0))], [row b7 23 (dc n)], [row b4 23 (dc d)], [row b1 23 (dc k)]] R [0, 1, 2, 3] hA14)) ?_
    have hA15 := Hl.drew hA14
    refine vp_y hF rfl rfl rfl rfl (by decide) _ (fun x hx => y_move rfl rfl) (fun a hF => ?_)
    refine vp_y hF rfl rfl rfl rfl (by decide) _ (fun x hx => y_nilCheck rfl rfl) (fun a hF => ?_)
    refine vp_y hF rfl rfl rfl rfl (by decide) _ (fun x hx => y_field rfl Tryd.underlying102 rfl sz3_s9 (by decide) rfl (rfl : (⟨_, 0 + _, none⟩ : Addr) = ⟨_, 0, none⟩)) (fun a hF => ?_)
    refine vp_y hF rfl rfl rfl rfl (by decide) _ (fun x hx => y_ldC rfl (Hq.sub hx (List.Subset.trans hG (subC (subC (subC (subC (sub0))))))) rfl hs1 0 (by simp) rfl rfl nr3_s9) (fun a hF => ?_)
    refine vp_y hF rfl rfl rfl rfl (by decide) _ (fun x hx => y_ldRow (new := dc d) rfl hx rfl 2 rfl rw23_s9 (by rw [hdd]; exact Nat.le_refl _) (by rw [List.drop_zero]; exact List.take_of_length_le (by rw [hdd]; exact Nat.le_refl _))) (fun a hF => ?_)
    refine vp_y hF rfl rfl rfl rfl (by decide) _ (fun x hx => y_ldRow (new := dc n) rfl hx rfl 1 rfl rw23_s9 (by rw [hdn]; exact Nat.le_refl _) (by rw [List.drop_zero]; exact List.take_of_length_le (by rw [hdn]; exact Nat.le_refl _))) (fun a hF => ?_)
    refine vp_l rfl rfl rfl (fun K hK => ws_call hF rfl (by decide) cl96_s9 rfl rfl ?_)
    with_reducible refine (tt_branch w0 _ ([row b10 23 (dc (List.replicate 32 0))] :: [row b7 23 (dc n)] :: [row b4 23 (dc d)] :: [row b1 23 (dc k)] :: R) width d n hd hn hT hA15 ).mono ?_
    rintro e' w16 ⟨rfl, hA17⟩
    refine ⟨_, rfl, fun a hF => hK _ _ (fun _ => ?_) ?_⟩
    · exact Hp.qp [[row b10 23 (dc (List.replicate 32 0))], [row b7 23 (dc n)], [row b4 23 (dc d)], [row b1 23 (dc k)]] R [0, 1, 2, 3] hA17
    clear hK K
    replace hA17 : Hp w0 ([row b10 23 (dc (List.replicate 32 0))] :: [row b7 23 (dc n)] :: [row b4 23 (dc d)] :: [row b1 23 (dc k)] :: R) w16 := hA17
    rw [show ofL width 4 (d ++ n) = sideD width k d n h by unfold sideD; rw [if_pos hkb]; rfl] at hF
    refine vp_l rfl rfl rfl (fun K hK => hs_storeAll (new := dc (sideD width k d n h)) hF rfl rfl hA17 rfl rfl 0 rfl (by rw [hds]; rfl) (dc_one _) sz23_s9 (fun w18 hA19 => hK _ _ (fun h => absurd h (by decide)) ?_))
    clear hK K
    replace hA19 : Hp w0 ([row b10 23 (dc (sideD width k d n h))] :: [row b7 23 (dc n)] :: [row b4 23 (dc d)] :: [row b1 23 (dc k)] :: R) w18 := hA19
    refine plan_end ?_
    refine hK4 _ _ ?_; clear  hK4 K4
    apply wp_ret
    simp only [Exit.then]
    refine vc_retR hF Tryd.results86 hA19.q rfl 0 rfl (by rw [hds]; exact rw23_s9) ?_
    have hA20 : Hp w0 (R) w18 := Hp.sel [[row b10 23 (dc (sideD width k d n h))], [row b7 23 (dc n)], [row b4 23 (dc d)], [row b1 23 (dc k)]] R [] [0, 1, 2, 3] hA19 rfl
    exact ⟨rfl, hA20⟩
  · refine wp_region_lit ?_
    refine vc_y hF rfl rfl (by decide) _ (y_ldRow (new := dc k) rfl hA12.q rfl 3 rfl rw23_s9 (by rw [hdk]; exact Nat.le_refl _) (by rw [List.drop_zero]; exact List.take_of_length_le (by rw [hdk]; exact Nat.le_refl _))) (fun a hF => ?_)
    refine vc_y hF rfl rfl (by decide) _ (y_move rfl rfl) (fun a hF => ?_)
    refine vc_y hF rfl rfl (by decide) _ (y_sub rfl rfl rfl (show IntKind.i64.wrap (255 - (h : Int)) = ((255 - h : Nat) : Int) by rw [IntWalk.i64_in _ (by omega)]; omega)) (fun a hF => ?_)
    refine vc_op rfl (fun K hK => ws_call hF rfl (by decide) cl76_s9 rfl rfl ?_)
    with_reducible refine (sp_bit w0 _ ([row b10 23 (dc (List.replicate 32 0))] :: [row b7 23 (dc n)] :: [row b4 23 (dc d)] :: [row b1 23 (dc k)] :: R) k (255 - h) hk (by omega) hA12 ).mono ?_
    rintro e' w21 ⟨rfl, hA22⟩
    refine ⟨_, rfl, fun a hF => hK _ _ ?_⟩
    clear hK K
    replace hA22 : Hp w0 ([row b10 23 (dc (List.replicate 32 0))] :: [row b7 23 (dc n)] :: [row b4 23 (dc d)] :: [row b1 23 (dc k)] :: R) w21 := hA22
    refine vc_y hF rfl rfl (by decide) _ (y_cmp rfl rfl rfl rfl (eql_f (by omega))) (fun a hF => ?_)
    refine vc_nil ?_
    refine hK3 _ _ ?_; clear  hK3 K3
    refine vc_false hF rfl ?_
    apply wp_skip
    refine hK2 _ _ ?_; clear  hK2 K2
    apply wp_seq_k; intro K5 hK5
    refine wp_region_plan 7 [6,7] [0,1,2,3,4,5,6,7] (fun x => Hq w0 ([row b10 23 (dc (List.replicate 32 0))] :: [row b7 23 (dc n)] :: [row b4 23 (dc d)] :: [row b1 23 (dc k)] :: R) x) (by kernel_rfl) (by kernel_rfl) (Hq.drew (Hp.qp [[row b10 23 (dc (List.replicate 32 0))], [row b7 23 (dc n)], [row b4 23 (dc d)], [row b1 23 (dc k)]] R [0, 1, 2, 3] hA22)) ?_
    have hA23 := Hl.drew hA22
    refine vp_y hF rfl rfl rfl rfl (by decide) _ (fun x hx => y_move rfl rfl) (fun a hF => ?_)
    refine vp_y hF rfl rfl rfl rfl (by decide) _ (fun x hx => y_nilCheck rfl rfl) (fun a hF => ?_)
    refine vp_y hF rfl rfl rfl rfl (by decide) _ (fun x hx => y_field rfl Tryd.underlying102 rfl sz3_s9 (by decide) rfl (rfl : (⟨_, 0 + _, none⟩ : Addr) = ⟨_, 0, none⟩)) (fun a hF => ?_)
    refine vp_y hF rfl rfl rfl rfl (by decide) _ (fun x hx => y_ldC rfl (Hq.sub hx (List.Subset.trans hG (subC (subC (subC (subC (sub0))))))) rfl hs1 0 (by simp) rfl rfl nr3_s9) (fun a hF => ?_)
    refine vp_y hF rfl rfl rfl rfl (by decide) _ (fun x hx => y_ldRow (new := dc n) rfl hx rfl 1 rfl rw23_s9 (by rw [hdn]; exact Nat.le_refl _) (by rw [List.drop_zero]; exact List.take_of_length_le (by rw [hdn]; exact Nat.le_refl _))) (fun a hF => ?_)
    refine vp_y hF rfl rfl rfl rfl (by decide) _ (fun x hx => y_ldRow (new := dc d) rfl hx rfl 2 rfl rw23_s9 (by rw [hdd]; exact Nat.le_refl _) (by rw [List.drop_zero]; exact List.take_of_length_le (by rw [hdd]; exact Nat.le_refl _))) (fun a hF => ?_)
    refine vp_l rfl rfl rfl (fun K hK => ws_call hF rfl (by decide) cl96_s9 rfl rfl ?_)
    with_reducible refine (tt_branch w0 _ ([row b10 23 (dc (List.replicate 32 0))] :: [row b7 23 (dc n)] :: [row b4 23 (dc d)] :: [row b1 23 (dc k)] :: R) width n d hn hd hT hA23 ).mono ?_
    rintro e' w24 ⟨rfl, hA25⟩
    refine ⟨_, rfl, fun a hF => hK _ _ (fun _ => ?_) ?_⟩
    · exact Hp.qp [[row b10 23 (dc (List.replicate 32 0))], [row b7 23 (dc n)], [row b4 23 (dc d)], [row b1 23 (dc k)]] R [0, 1, 2, 3] hA25
    clear hK K
    replace hA25 : Hp w0 ([row b10 23 (dc (List.replicate 32 0))] :: [row b7 23 (dc n)] :: [row b4 23 (dc d)] :: [row b1 23 (dc k)] :: R) w24 := hA25
    rw [show ofL width 4 (n ++ d) = sideD width k d n h by unfold sideD; rw [if_neg hkb]; rfl] at hF
    refine vp_l rfl rfl rfl (fun K hK => hs_storeAll (new := dc (sideD width k d n h)) hF rfl rfl hA25 rfl rfl 0 rfl (by rw [hds]; rfl) (dc_one _) sz23_s9 (fun w26 hA27 => hK _ _ (fun h => absurd h (by decide)) ?_))
    clear hK K
    replace hA27 : Hp w0 ([row b10 23 (dc (sideD width k d n h))] :: [row b7 23 (dc n)] :: [row b4 23 (dc d)] :: [row b1 23 (dc k)] :: R) w26 := hA27
    refine plan_end ?_
    refine hK5 _ _ ?_; clear  hK5 K5
    apply wp_ret
    refine vc_retR hF Tryd.results86 hA27.q rfl 0 rfl (by rw [hds]; exact rw23_s9) ?_
    have hA28 : Hp w0 (R) w26 := Hp.sel [[row b10 23 (dc (sideD width k d n h))], [row b7 23 (dc n)], [row b4 23 (dc d)], [row b1 23 (dc k)]] R [] [0, 1, 2, 3] hA27 rfl
    exact ⟨rfl, hA28⟩

set_option maxRecDepth 100000 in
set_option maxHeartbeats 2000000 in
theorem rx_put0 (w0 w : World) (R : List Seg) (i : Itm) (hi : i.OK) (sv : Value) (hA : Hp w0 R w) : Calls Tryd.prog 57 #[.pointer none, .agg (dc i.k).toArray, .agg (.int .i64 i.ct :: dc i.ch).toArray, sv] w fun e w' => ∃ g, e = .returned (.pointer (some ⟨g, 0, none⟩)) ∧ Hp w0 ([row g 107 (leafC i)] :: R) w' := by
  have hdk : (dc i.k).length = 32 := by rw [dc_length, hi.k]
  have hde : (Value.int .i64 i.ct :: dc i.ch).length = 33 := by rw [List.length_cons, dc_length, hi.ch]
  refine vc_enter Tryd.func57 rfl Tryd.ntmps57 (Nat.le_of_ble_eq_true rfl) (fun a hF => ?_)
  apply wp_seq_k; intro K1 hK1
  refine wp_region_lit ?_
  refine vc_op rfl (fun K hK => hs_box (cs := dc i.k) hF rfl (by decide) rfl hA rfl (fun b1 w2 a hb1 hF hA3 => hK _ _ ?_))
  clear hK K
  replace hA3 : Hp w0 ([row b1 23 (dc i.k)] :: R) w2 := hA3
  refine vc_op rfl (fun K hK => hs_box (cs := .int .i64 i.ct :: dc i.ch) hF rfl (by decide) rfl hA3 rfl (fun b4 w5 a hb4 hF hA6 => hK _ _ ?_))
  clear hK K
  replace hA6 : Hp w0 ([row b4 25 (.int .i64 i.ct :: dc i.ch)] :: [row b1 23 (dc i.k)] :: R) w5 := hA6
  refine vc_y hF rfl rfl (by decide) _ (y_assign rfl rfl) (fun a hF => ?_)
  refine vc_nil ?_
  refine hK1 _ _ ?_; clear  hK1 K1
  apply wp_seq_k; intro K2 hK2
  refine wp_region_lit ?_
  refine vc_y hF rfl rfl (by decide) _ (y_ldRow (new := dc i.k) rfl hA6.q rfl 1 rfl rw23_s9 (by rw [hdk]; exact Nat.le_refl _) (by rw [List.drop_zero]; exact List.take_of_length_le (by rw [hdk]; exact Nat.le_refl _))) (fun a hF => ?_)
  refine vc_y hF rfl rfl (by decide) _ (y_ldRow (new := .int .i64 i.ct :: dc i.ch) rfl hA6.q rfl 0 rfl rw25_s9 (by rw [hde]; exact Nat.le_refl _) (by rw [List.drop_zero]; exact List.take_of_length_le (by rw [hde]; exact Nat.le_refl _))) (fun a hF => ?_)
  refine vc_y hF rfl rfl (by decide) _ (y_build (v := .agg (leafC i).toArray) (qs := #[(0, .agg (dc i.k).toArray), (1, .agg (.int .i64 i.ct :: dc i.ch).toArray), (2, .int .i64 1), (3, .int .i64 256)]) rfl rfl (by exact rx_node hi)) (fun a hF => ?_)
  refine vc_op rfl (fun K hK => hs_box (cs := leafC i) hF rfl (by decide) rfl hA6 rfl (fun b7 w8 a hb7 hF hA9 => hK _ _ ?_))
  clear hK K
  replace hA9 : Hp w0 ([row b7 107 (leafC i)] :: [row b4 25 (.int .i64 i.ct :: dc i.ch)] :: [row b1 23 (dc i.k)] :: R) w8 := hA9
  refine vc_y hF rfl rfl (by decide) _ (y_assign rfl rfl) (fun a hF => ?_)
  refine vc_nil ?_
  refine hK2 _ _ ?_; clear  hK2 K2
  apply wp_seq_k; intro K3 hK3
  apply wp_seq_k; intro K4 hK4
  refine wp_region_lit ?_
  refine vc_y hF rfl rfl (by decide) _ (y_move rfl rfl) (fun a hF => ?_)
  refine vc_y hF rfl rfl (by decide) _ (y_eqNilT rfl (by kernel_rfl) rfl rfl) (fun a hF => ?_)
  refine vc_nil ?_
  refine hK4 _ _ ?_; clear  hK4 K4
  refine vc_true hF rfl ?_
  apply wp_seq_k; intro K5 hK5
  refine wp_region_lit ?_
  refine vc_y hF rfl rfl (by decide) _ (y_move rfl rfl) (fun a hF => ?_)
  refine vc_y hF rfl rfl (by decide) _ (y_assign rfl rfl) (fun a hF => ?_)
  refine vc_nil ?_
  refine hK5 _ _ ?_; clear  hK5 K5
  apply wp_ret
  simp only [Exit.then]
  refine vc_ret1 hF Tryd.results57 rfl ?_
  have hA10 : Hp w0 ([row b7 107 (leafC i)] :: R) w8 := Hp.sel [[row b7 107 (leafC i)], [row b4 25 (.int .i64 i.ct :: dc i.ch)], [row b1 23 (dc i.k)]] R [0] [1, 2] hA9 rfl
  exact ⟨b7, rfl, hA10⟩

set_option maxRecDepth 100000 in
set_option maxHeartbeats 2000000 in
theorem rx_len0 (w0 w : World) (R : List Seg) (hA : Hp w0 R w) : Calls Tryd.prog 20 #[.agg ([.pointer none, .slice none 0 0] : List Value).toArray] w fun e w' => e = .returned (.int .i64 0) ∧ Hp w0 R w' := by
  refine vc_enter Tryd.func20 rfl Tryd.ntmps20 (Nat.le_of_ble_eq_true rfl) (fun a hF => ?_)
  apply wp_seq_k; intro K1 hK1
  refine wp_region_lit ?_
  refine vc_op rfl (fun K hK => hs_box (cs := [.pointer none, .slice none 0 0]) hF rfl (by decide) rfl hA rfl (fun b1 w2 a hb1 hF hA3 => hK _ _ ?_))
  clear hK K
  replace hA3 : Hp w0 ([row b1 45 [.pointer none, .slice none 0 0]] :: R) w2 := hA3
  refine vc_y hF rfl rfl (by decide) _ (y_assign rfl rfl) (fun a hF => ?_)
  refine vc_nil ?_
  refine hK1 _ _ ?_; clear  hK1 K1
  apply wp_seq_k; intro K2 hK2
  apply wp_seq_k; intro K3 hK3
  refine wp_region_lit ?_
  refine vc_y hF rfl rfl (by decide) _ (y_field rfl Tryd.underlying45 rfl sz43_s9 (by decide) rfl (rfl : (⟨_, 0 + _, none⟩ : Addr) = ⟨_, 0, none⟩)) (fun a hF => ?_)
  refine vc_y hF rfl rfl (by decide) _ (y_ld rfl hA3.q rfl 0 rfl rfl nr43_s9) (fun a hF => ?_)
  refine vc_y hF rfl rfl (by decide) _ (y_eqNilT rfl (by kernel_rfl) rfl rfl) (fun a hF => ?_)
  refine vc_nil ?_
  refine hK3 _ _ ?_; clear  hK3 K3
  refine vc_true hF rfl ?_
  apply wp_seq_k; intro K4 hK4
  refine wp_region_lit ?_
  refine vc_y hF rfl rfl (by decide) _ (y_assign rfl rfl) (fun a hF => ?_)
  refine vc_nil ?_
  refine hK4 _ _ ?_; clear  hK4 K4
  apply wp_ret
  simp only [Exit.then]
  refine vc_ret1 hF Tryd.results20 rfl ?_
  have hA4 : Hp w0 (R) w2 := Hp.sel [[row b1 45 [.pointer none, .slice none 0 0]]] R [] [0] hA3 rfl
  exact ⟨rfl, hA4⟩

end Go.Proofs.YtpomngkcfbnjoaaDoor
