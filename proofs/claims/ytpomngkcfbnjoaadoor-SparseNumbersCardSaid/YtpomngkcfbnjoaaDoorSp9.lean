/- The sums of a sparse tree of one key. -/
import Derived.Test.YtpomngkcfbnjoaaDoorSpR
import Derived.Test.YtpomngkcfbnjoaaDoorMore
namespace Go.Proofs.YtpomngkcfbnjoaaDoor
open Go.RowKit Go.Dk

theorem rx_build3 (width : Int) (A : Option Addr) (c wb : Nat) (w : World) : (Instr.build 102 #[(0, .int .i64 width), (1, .slice A 257 c), (2, .func (.func 82) #[] #[.pointer (some ⟨wb, 0, none⟩)])]).run Tryd.prog w = .ok (.agg ([.int .i64 width, .slice A 257 c, .func (.func 82) #[] #[.pointer (some ⟨wb, 0, none⟩)]] : List Value).toArray) w := by kernel_rfl
theorem rx_build2 (g : Nat) (A : Option Addr) (c : Nat) (w : World) : (Instr.build 45 #[(0, .pointer (some ⟨g, 0, none⟩)), (1, .slice A 257 c)]).run Tryd.prog w = .ok (.agg ([.pointer (some ⟨g, 0, none⟩), .slice A 257 c] : List Value).toArray) w := by kernel_rfl
set_option maxRecDepth 100000 in
theorem rx_node0 (f g : Nat → UInt8) (c : Int) (w : World) : (Instr.build 107 #[(0, .agg (dc ((List.range 32).map f)).toArray), (1, .agg (.int .i64 c :: dc ((List.range 32).map g)).toArray), (2, .int .i64 1), (3, .int .i64 256)]).run Tryd.prog w = .ok (.agg (leafC ⟨(List.range 32).map f, c, (List.range 32).map g⟩).toArray) w := by kernel_rfl
theorem rx_node {i : Itm} (h : i.OK) (w : World) : (Instr.build 107 #[(0, .agg (dc i.k).toArray), (1, .agg (.int .i64 i.ct :: dc i.ch).toArray), (2, .int .i64 1), (3, .int .i64 256)]).run Tryd.prog w = .ok (.agg (leafC i).toArray) w := by
  have h1 := rx_node0 (bAt i.k) (bAt i.ch) i.ct w
  rw [list32 h.k, list32 h.ch] at h1
  exact h1
theorem nr3_s9 : notRow Tryd.prog 3 = true := by kernel_rfl
theorem nr26_s9 : notRow Tryd.prog 26 = true := by kernel_rfl
theorem nr43_s9 : notRow Tryd.prog 43 = true := by kernel_rfl
theorem nr100_s9 : notRow Tryd.prog 100 = true := by kernel_rfl
theorem rw23_s9 : isRow Tryd.prog 23 32 = true := by kernel_rfl
theorem rw25_s9 : isRow Tryd.prog 25 33 = true := by kernel_rfl
theorem rw45_s9 : isRow Tryd.prog 45 2 = true := by kernel_rfl
theorem sz3_s9 : (Tryd.prog.info? 3).map (·.size) = some 1 := by kernel_rfl
theorem sz23_s9 : (Tryd.prog.info? 23).map (·.size) = some 32 := by kernel_rfl
theorem sz25_s9 : (Tryd.prog.info? 25).map (·.size) = some 33 := by kernel_rfl
theorem sz26_s9 : (Tryd.prog.info? 26).map (·.size) = some 1 := by kernel_rfl
theorem sz43_s9 : (Tryd.prog.info? 43).map (·.size) = some 1 := by kernel_rfl
theorem sz45_s9 : (Tryd.prog.info? 45).map (·.size) = some 2 := by kernel_rfl
theorem sz100_s9 : (Tryd.prog.info? 100).map (·.size) = some 1 := by kernel_rfl
theorem cl54_s9 : CallsTo Tryd.prog 54 := ⟨_, Tryd.func54, by kernel_rfl, by kernel_rfl⟩
theorem cl55_s9 : CallsTo Tryd.prog 55 := ⟨_, Tryd.func55, by kernel_rfl, by kernel_rfl⟩
theorem cl56_s9 : CallsTo Tryd.prog 56 := ⟨_, Tryd.func56, by kernel_rfl, by kernel_rfl⟩
theorem cl57_s9 : CallsTo Tryd.prog 57 := ⟨_, Tryd.func57, by kernel_rfl, by kernel_rfl⟩
theorem cl74_s9 : CallsTo Tryd.prog 74 := ⟨_, Tryd.func74, by kernel_rfl, by kernel_rfl⟩
theorem cl76_s9 : CallsTo Tryd.prog 76 := ⟨_, Tryd.func76, by kernel_rfl, by kernel_rfl⟩
theorem cl82_s9 : CallsTo Tryd.prog 82 := ⟨_, Tryd.func82, by kernel_rfl, by kernel_rfl⟩
theorem cl83_s9 : CallsTo Tryd.prog 83 := ⟨_, Tryd.func83, by kernel_rfl, by kernel_rfl⟩
theorem cl84_s9 : CallsTo Tryd.prog 84 := ⟨_, Tryd.func84, by kernel_rfl, by kernel_rfl⟩
theorem cl85_s9 : CallsTo Tryd.prog 85 := ⟨_, Tryd.func85, by kernel_rfl, by kernel_rfl⟩
theorem cl86_s9 : CallsTo Tryd.prog 86 := ⟨_, Tryd.func86, by kernel_rfl, by kernel_rfl⟩
theorem cl96_s9 : CallsTo Tryd.prog 96 := ⟨_, Tryd.func96, by kernel_rfl, by kernel_rfl⟩

theorem zr23_s9 : zeroIs Tryd.prog 23 (.agg (dc (List.replicate 32 0)).toArray) := by unfold zeroIs; kernel_rfl
theorem zr45_s9 : zeroIs Tryd.prog 45 (.agg ([.pointer none, .slice none 0 0] : List Value).toArray) := by unfold zeroIs; kernel_rfl

set_option maxRecDepth 100000 in
set_option maxHeartbeats 2000000 in
theorem rx_at0 (w0 w : World) (R : List Seg) (width kw : Int) (hkw : kw = min (max width 1) 32) (hT : Tab w0) (hA : Hp w0 R w) : Calls Tryd.prog 54 #[.int .i64 width, .slice none 0 0] w fun e w' => ∃ g wb A c X, e = .returned (.pointer (some ⟨g, 0, none⟩)) ∧ Rc w0 [X] A (digs (emptyL kw) 257) ∧ Hp w0 ([row g 102 [.int .i64 kw, .slice A 257 c, .func (.func 82) #[] #[.pointer (some ⟨wb, 0, none⟩)]]] :: [row wb 3 [.int .i64 kw]] :: X :: R) w' := by
  refine vc_enter Tryd.func54 rfl Tryd.ntmps54 (Nat.le_of_ble_eq_true rfl) (fun a hF => ?_)
  apply wp_seq_k; intro K1 hK1
  refine wp_region_lit ?_
  refine vc_op rfl (fun K hK => hs_box1 hF rfl (by decide) rfl hA rfl rfl (fun b1 w2 a hb1 hF hA3 => hK _ _ ?_))
  clear hK K
  replace hA3 : Hp w0 ([row b1 3 [.int .i64 width]] :: R) w2 := hA3
  refine vc_y hF rfl rfl (by decide) _ (y_assign rfl rfl) (fun a hF => ?_)
  refine vc_nil ?_
  refine hK1 _ _ ?_; clear  hK1 K1
  apply wp_seq_k; intro K2 hK2
  refine wp_region_lit ?_
  refine vc_y hF rfl rfl (by decide) _ (y_ld rfl hA3.q rfl 0 rfl rfl nr3_s9) (fun a hF => ?_)
  refine vc_y hF rfl rfl (by decide) _ (y_max rfl rfl rfl rfl) (fun a hF => ?_)
  refine vc_y hF rfl rfl (by decide) _ (y_min rfl rfl rfl hkw.symm) (fun a hF => ?_)
  refine vc_op rfl (fun K hK => hs_store1 hF rfl rfl hA3 rfl rfl 0 rfl (by simp) rfl sz3_s9 (fun w4 hA5 => hK _ _ ?_))
  clear hK K
  replace hA5 : Hp w0 ([row b1 3 [.int .i64 kw]] :: R) w4 := hA5
  refine vc_nil ?_
  refine hK2 _ _ ?_; clear  hK2 K2
  apply wp_seq_k; intro K3 hK3
  apply wp_seq_k; intro K4 hK4
  refine wp_region_lit ?_
  refine vc_y hF rfl rfl (by decide) _ (y_move rfl rfl) (fun a hF => ?_)
  refine vc_y hF rfl rfl (by decide) _ (y_slNilT rfl Tryd.underlying26 rfl rfl) (fun a hF => ?_)
  refine vc_y hF rfl rfl (by decide) _ (y_move rfl rfl) (fun a hF => ?_)
  refine vc_skip hF rfl rfl rfl rfl rfl rfl (by decide) (fun a hF => ?_)
  refine vc_skip hF rfl rfl rfl rfl rfl rfl (by decide) (fun a hF => ?_)
  refine vc_y hF rfl rfl (by decide) _ (y_pick rfl rfl rfl) (fun a hF => ?_)
  refine vc_nil ?_
  refine hK4 _ _ ?_; clear  hK4 K4
  refine vc_true hF rfl ?_
  refine wp_region_lit ?_
  refine vc_y hF rfl rfl (by decide) _ (y_ld rfl hA5.q rfl 0 rfl rfl nr3_s9) (fun a hF => ?_)
  refine vc_op rfl (fun K hK => ws_call hF rfl (by decide) cl74_s9 rfl rfl ?_)
  with_reducible refine (sp_empties w0 _ ([row b1 3 [.int .i64 kw]] :: R) kw hT hA5 ).mono ?_
  rintro e' w6 ⟨ev, X, rfl, hX, hA7⟩
  refine ⟨_, rfl, fun a hF => hK _ _ ?_⟩
  clear hK K
  replace hA7 : Hp w0 (X :: [row b1 3 [.int .i64 kw]] :: R) w6 := hA7
  have hFn := hF
  obtain ⟨A, c, rfl, _, hRc⟩ := hX.rc (w0 := w0) (R := [X]) (List.mem_cons_self ..)
  have hF := hFn
  refine vc_y hF rfl rfl (by decide) _ (y_assign rfl rfl) (fun a hF => ?_)
  refine vc_nil ?_
  refine hK3 _ _ ?_; clear  hK3 K3
  apply wp_seq_k; intro K5 hK5
  refine wp_region_lit ?_
  refine vc_y hF rfl rfl (by decide) _ (y_ld rfl hA7.q rfl 1 rfl rfl nr3_s9) (fun a hF => ?_)
  refine vc_y hF rfl rfl (by decide) _ (y_move rfl rfl) (fun a hF => ?_)
  refine vc_y hF rfl rfl (by decide) _ (y_makeFunc rfl rfl) (fun a hF => ?_)
  refine vc_y hF rfl rfl (by decide) _ (y_build (qs := #[(0, .int .i64 kw), (1, .slice A 257 c), (2, .func (.func 82) #[] #[.pointer (some ⟨b1, 0, none⟩)])]) rfl rfl (rx_build3 _ _ _ _)) (fun a hF => ?_)
  refine vc_op rfl (fun K hK => hs_box (cs := [.int .i64 kw, .slice A 257 c, .func (.func 82) #[] #[.pointer (some ⟨b1, 0, none⟩)]]) hF rfl (by decide) rfl hA7 rfl (fun b8 w9 a hb8 hF hA10 => hK _ _ ?_))
  clear hK K
  replace hA10 : Hp w0 ([row b8 102 [.int .i64 kw, .slice A 257 c, .func (.func 82) #[] #[.pointer (some ⟨b1, 0, none⟩)]]] :: X :: [row b1 3 [.int .i64 kw]] :: R) w9 := hA10
  refine vc_y hF rfl rfl (by decide) _ (y_assign rfl rfl) (fun a hF => ?_)
  refine vc_nil ?_
  refine hK5 _ _ ?_; clear  hK5 K5
  apply wp_ret
  refine vc_ret1 hF Tryd.results54 rfl ?_
  have hA11 : Hp w0 ([row b8 102 [.int .i64 kw, .slice A 257 c, .func (.func 82) #[] #[.pointer (some ⟨b1, 0, none⟩)]]] :: [row b1 3 [.int .i64 kw]] :: X :: R) w9 := Hp.ord [[row b8 102 [.int .i64 kw, .slice A 257 c, .func (.func 82) #[] #[.pointer (some ⟨b1, 0, none⟩)]]], X, [row b1 3 [.int .i64 kw]]] R [0, 2, 1] hA10 rfl
  exact ⟨b8, b1, A, c, X, rfl, hRc, hA11⟩

set_option maxRecDepth 100000 in
set_option maxHeartbeats 2000000 in
theorem rx_at1 (w0 w : World) (R : List Seg) (ad : Addr) (c : Nat) (hA : Hp w0 R w) : Calls Tryd.prog 54 #[.int .i64 32, .slice (some ad) 257 c] w fun e w' => ∃ g wb, e = .returned (.pointer (some ⟨g, 0, none⟩)) ∧ Hp w0 ([row g 102 [.int .i64 32, .slice (some ad) 257 c, .func (.func 82) #[] #[.pointer (some ⟨wb, 0, none⟩)]]] :: [row wb 3 [.int .i64 32]] :: R) w' := by
  refine vc_enter Tryd.func54 rfl Tryd.ntmps54 (Nat.le_of_ble_eq_true rfl) (fun a hF => ?_)
  apply wp_seq_k; intro K1 hK1
  refine wp_region_lit ?_
  refine vc_op rfl (fun K hK => hs_box1 hF rfl (by decide) rfl hA rfl rfl (fun b1 w2 a hb1 hF hA3 => hK _ _ ?_))
  clear hK K
  replace hA3 : Hp w0 ([row b1 3 [.int .i64 32]] :: R) w2 := hA3
  refine vc_y hF rfl rfl (by decide) _ (y_assign rfl rfl) (fun a hF => ?_)
  refine vc_nil ?_
  refine hK1 _ _ ?_; clear  hK1 K1
  apply wp_seq_k; intro K2 hK2
  refine wp_region_lit ?_
  refine vc_y hF rfl rfl (by decide) _ (y_ld rfl hA3.q rfl 0 rfl rfl nr3_s9) (fun a hF => ?_)
  refine vc_y hF rfl rfl (by decide) _ (y_max rfl rfl rfl (show max (32 : Int) 1 = 32 by decide)) (fun a hF => ?_)
  refine vc_y hF rfl rfl (by decide) _ (y_min rfl rfl rfl (show min (32 : Int) 32 = 32 by decide)) (fun a hF => ?_)
  refine vc_op rfl (fun K hK => hs_store1 hF rfl rfl hA3 rfl rfl 0 rfl (by simp) rfl sz3_s9 (fun w4 hA5 => hK _ _ ?_))
  clear hK K
  replace hA5 : Hp w0 ([row b1 3 [.int .i64 32]] :: R) w4 := hA5
  refine vc_nil ?_
  refine hK2 _ _ ?_; clear  hK2 K2
  apply wp_seq_k; intro K3 hK3
  apply wp_seq_k; intro K4 hK4
  refine wp_region_lit ?_
  refine vc_y hF rfl rfl (by decide) _ (y_move rfl rfl) (fun a hF => ?_)
  refine vc_y hF rfl rfl (by decide) _ (y_slNilF rfl Tryd.underlying26 rfl rfl) (fun a hF => ?_)
  refine vc_y hF rfl rfl (by decide) _ (y_move rfl rfl) (fun a hF => ?_)
  refine vc_yg hF rfl rfl rfl rfl rfl (by decide) _ (y_ld rfl hA5.q rfl 0 rfl rfl nr3_s9) (fun a hF => ?_)
  refine vc_yg hF rfl rfl rfl rfl rfl (by decide) _ (y_cmp rfl rfl rfl rfl (neq_f (by omega))) (fun a hF => ?_)
  refine vc_y hF rfl rfl (by decide) _ (y_pick rfl rfl rfl) (fun a hF => ?_)
  refine vc_nil ?_
  refine hK4 _ _ ?_; clear  hK4 K4
  refine vc_false hF rfl ?_
  apply wp_skip
  refine hK3 _ _ ?_; clear  hK3 K3
  apply wp_seq_k; intro K5 hK5
  refine wp_region_lit ?_
  refine vc_y hF rfl rfl (by decide) _ (y_ld rfl hA5.q rfl 0 rfl rfl nr3_s9) (fun a hF => ?_)
  refine vc_y hF rfl rfl (by decide) _ (y_move rfl rfl) (fun a hF => ?_)
  refine vc_y hF rfl rfl (by decide) _ (y_makeFunc rfl rfl) (fun a hF => ?_)
  refine vc_y hF rfl rfl (by decide) _ (y_build (qs := #[(0, .int .i64 32), (1, .slice (some ad) 257 c), (2, .func (.func 82) #[] #[.pointer (some ⟨b1, 0, none⟩)])]) rfl rfl (rx_build3 _ _ _ _)) (fun a hF => ?_)
  refine vc_op rfl (fun K hK => hs_box (cs := [.int .i64 32, .slice (some ad) 257 c, .func (.func 82) #[] #[.pointer (some ⟨b1, 0, none⟩)]]) hF rfl (by decide) rfl hA5 rfl (fun b6 w7 a hb6 hF hA8 => hK _ _ ?_))
  clear hK K
  replace hA8 : Hp w0 ([row b6 102 [.int .i64 32, .slice (some ad) 257 c, .func (.func 82) #[] #[.pointer (some ⟨b1, 0, none⟩)]]] :: [row b1 3 [.int .i64 32]] :: R) w7 := hA8
  refine vc_y hF rfl rfl (by decide) _ (y_assign rfl rfl) (fun a hF => ?_)
  refine vc_nil ?_
  refine hK5 _ _ ?_; clear  hK5 K5
  apply wp_ret
  refine vc_ret1 hF Tryd.results54 rfl ?_
  exact ⟨b6, b1, rfl, hA8⟩

set_option maxRecDepth 100000 in
set_option maxHeartbeats 2000000 in
theorem rx_end0 (w0 w : World) (R G : List Seg) (hG : G ⊆ R) (i : Itm) (hi : i.OK) (width : Int) (wb : Nat) (hs2 : Rw w0 G wb [.int .i64 width]) (hT : Tab w0) (hA : Hp w0 R w) : Calls Tryd.prog 82 #[.agg (dc i.k).toArray, .agg (.int .i64 i.ct :: dc i.ch).toArray, .pointer (some ⟨wb, 0, none⟩)] w fun e w' => e = .returned (.agg (dc (entryD width i)).toArray) ∧ Hp w0 R w' := by
  have hdk : (dc i.k).length = 32 := by rw [dc_length, hi.k]
  have hde : (Value.int .i64 i.ct :: dc i.ch).length = 33 := by rw [List.length_cons, dc_length, hi.ch]
  refine vc_enter Tryd.func82 rfl Tryd.ntmps82 (Nat.le_of_ble_eq_true rfl) (fun a hF => ?_)
  apply wp_seq_k; intro K1 hK1
  refine wp_region_lit ?_
  refine vc_op rfl (fun K hK => hs_box (cs := dc i.k) hF rfl (by decide) rfl hA rfl (fun b1 w2 a hb1 hF hA3 => hK _ _ ?_))
  clear hK K
  replace hA3 : Hp w0 ([row b1 23 (dc i.k)] :: R) w2 := hA3
  refine vc_op rfl (fun K hK => hs_box (cs := .int .i64 i.ct :: dc i.ch) hF rfl (by decide) rfl hA3 rfl (fun b4 w5 a hb4 hF hA6 => hK _ _ ?_))
  clear hK K
  replace hA6 : Hp w0 ([row b4 25 (.int .i64 i.ct :: dc i.ch)] :: [row b1 23 (dc i.k)] :: R) w5 := hA6
  refine vc_op rfl (fun K hK => hs_alloc hF rfl (by decide) rfl hA6 (zr23_s9) (fun b7 w8 a hb7 hF hA9 => hK _ _ ?_))
  clear hK K
  replace hA9 : Hp w0 ([row b7 23 (dc (List.replicate 32 0))] :: [row b4 25 (.int .i64 i.ct :: dc i.ch)] :: [row b1 23 (dc i.k)] :: R) w8 := hA9
  refine vc_nil ?_
  refine hK1 _ _ ?_; clear  hK1 K1
  apply wp_seq_k; intro K2 hK2
  have hdd : (dc (entryD width i)).length = 32 := by rw [dc_length, entryD_length]
  refine wp_region_lit ?_
  refine vc_y hF rfl rfl (by decide) _ (y_ldC rfl (Hq.sub hA9.q (List.Subset.trans hG (subC (subC (subC (sub0)))))) rfl hs2 0 (by simp) rfl rfl nr3_s9) (fun a hF => ?_)
  refine vc_y hF rfl rfl (by decide) _ (y_ldRow (new := dc i.k) rfl hA9.q rfl 2 rfl rw23_s9 (by rw [hdk]; exact Nat.le_refl _) (by rw [List.drop_zero]; exact List.take_of_length_le (by rw [hdk]; exact Nat.le_refl _))) (fun a hF => ?_)
  refine vc_y hF rfl rfl (by decide) _ (y_ldRow (new := .int .i64 i.ct :: dc i.ch) rfl hA9.q rfl 1 rfl rw25_s9 (by rw [hde]; exact Nat.le_refl _) (by rw [List.drop_zero]; exact List.take_of_length_le (by rw [hde]; exact Nat.le_refl _))) (fun a hF => ?_)
  refine vc_op rfl (fun K hK => ws_call hF rfl (by decide) cl83_s9 rfl rfl ?_)
  with_reducible refine (tt_entry w0 _ ([row b7 23 (dc (List.replicate 32 0))] :: [row b4 25 (.int .i64 i.ct :: dc i.ch)] :: [row b1 23 (dc i.k)] :: R) width i.ct i.k i.ch hi.k hi.ch hT hA9 ).mono ?_
  rintro e' w10 ⟨rfl, hA11⟩
  refine ⟨_, rfl, fun a hF => hK _ _ ?_⟩
  clear hK K
  replace hA11 : Hp w0 ([row b7 23 (dc (List.replicate 32 0))] :: [row b4 25 (.int .i64 i.ct :: dc i.ch)] :: [row b1 23 (dc i.k)] :: R) w10 := hA11
  rw [show ofL width 3 (i.k ++ be 8 (c64 i.ct) ++ i.ch) = entryD width i from rfl] at hF
  refine vc_op rfl (fun K hK => hs_storeAll (new := dc (entryD width i)) hF rfl rfl hA11 rfl rfl 0 rfl (by rw [hdd]; rfl) (dc_one _) sz23_s9 (fun w12 hA13 => hK _ _ ?_))
  clear hK K
  replace hA13 : Hp w0 ([row b7 23 (dc (entryD width i))] :: [row b4 25 (.int .i64 i.ct :: dc i.ch)] :: [row b1 23 (dc i.k)] :: R) w12 := hA13
  refine vc_nil ?_
  refine hK2 _ _ ?_; clear  hK2 K2
  apply wp_ret
  refine vc_retR hF Tryd.results82 hA13.q rfl 0 rfl (by rw [hdd]; exact rw23_s9) ?_
  have hA14 : Hp w0 (R) w12 := Hp.sel [[row b7 23 (dc (entryD width i))], [row b4 25 (.int .i64 i.ct :: dc i.ch)], [row b1 23 (dc i.k)]] R [] [0, 1, 2] hA13 rfl
  exact ⟨rfl, hA14⟩

theorem rx_end (w0 w : World) (R G : List Seg) (hG : G ⊆ R) (i : Itm) (hi : i.OK) (width : Int) (wb : Nat) (hs2 : Rw w0 G wb [.int .i64 width]) (hT : Tab w0) (hA : Hp w0 R w) : Calls Tryd.prog 82 ([.agg (dc i.k).toArray, .agg (.int .i64 i.ct :: dc i.ch).toArray] ++ [.pointer (some ⟨wb, 0, none⟩)] : List Value).toArray w fun e w' => e = .returned (.agg (dc (entryD width i)).toArray) ∧ Hp w0 R w' :=
  rx_end0 w0 w R G hG i hi width wb hs2 hT hA

set_option maxRecDepth 100000 in
set_option maxHeartbeats 2000000 in
theorem rx_own (w0 w : World) (R G : List Seg) (hG : G ⊆ R) (i : Itm) (hi : i.OK) (gn : Nat) (hN : Rw w0 G gn (leafC i)) (gs : Nat) (width : Int) (hSm : Sm w0 G 82 gs width) (hT : Tab w0) (hA : Hp w0 R w) : Calls Tryd.prog 84 #[.pointer (some ⟨gs, 0, none⟩), .pointer (some ⟨gn, 0, none⟩)] w fun e w' => e = .returned (.agg (dc (entryD width i)).toArray) ∧ Hp w0 R w' := by
  obtain ⟨AE, cE, wb, hs1, hs2, hs3⟩ := hSm
  refine vc_enter Tryd.func84 rfl Tryd.ntmps84 (Nat.le_of_ble_eq_true rfl) (fun a hF => ?_)
  apply wp_seq_k; intro K1 hK1
  refine wp_region_lit ?_
  refine vc_op rfl (fun K hK => hs_alloc hF rfl (by decide) rfl hA (zr23_s9) (fun b1 w2 a hb1 hF hA3 => hK _ _ ?_))
  clear hK K
  replace hA3 : Hp w0 ([row b1 23 (dc (List.replicate 32 0))] :: R) w2 := hA3
  refine vc_nil ?_
  refine hK1 _ _ ?_; clear  hK1 K1
  apply wp_seq_k; intro K2 hK2
  apply wp_seq_k; intro K3 hK3
  refine wp_region_lit ?_
  refine vc_y hF rfl rfl (by decide) _ (y_move rfl rfl) (fun a hF => ?_)
  refine vc_y hF rfl rfl (by decide) _ (y_nilCheck rfl rfl) (fun a hF => ?_)
  refine vc_y hF rfl rfl (by decide) _ (y_field rfl Tryd.underlying107 rfl sz3_s9 (by decide) rfl (rfl : (⟨_, 0 + _, none⟩ : Addr) = ⟨_, 66, none⟩)) (fun a hF => ?_)
  refine vc_y hF rfl rfl (by decide) _ (y_ldC rfl (Hq.sub hA3.q (List.Subset.trans hG (subC (sub0)))) rfl hN 66 (by rw [leafC_len hi]; decide) rfl (leafC_bit hi) nr3_s9) (fun a hF => ?_)
  refine vc_y hF rfl rfl (by decide) _ (y_cmp rfl rfl rfl rfl (eql_t (by omega))) (fun a hF => ?_)
  refine vc_nil ?_
  refine hK3 _ _ ?_; clear  hK3 K3
  refine vc_true hF rfl ?_
  have hdd : (dc (entryD width i)).length = 32 := by rw [dc_length, entryD_length]
  apply wp_seq_k; intro K4 hK4
  refine wp_region_plan 13 [12,13] [0,1,2,3,4,5,6,7,8,9,10,11,12,13] (fun x => Hq w0 ([row b1 23 (dc (List.replicate 32 0))] :: R) x) (by kernel_rfl) (by kernel_rfl) (Hq.drew (Hp.qp [[row b1 23 (dc (List.replicate 32 0))]] R [0] hA3)) ?_
  have hA4 := Hl.drew hA3
  refine vp_y hF rfl rfl rfl rfl (by decide) _ (fun x hx => y_move rfl rfl) (fun a hF => ?_)
  refine vp_y hF rfl rfl rfl rfl (by decide) _ (fun x hx => y_nilCheck rfl rfl) (fun a hF => ?_)
  refine vp_y hF rfl rfl rfl rfl (by decide) _ (fun x hx => y_field rfl Tryd.underlying102 rfl sz100_s9 (by decide) rfl (rfl : (⟨_, 0 + _, none⟩ : Addr) = ⟨_, 2, none⟩)) (fun a hF => ?_)
  refine vp_y hF rfl rfl rfl rfl (by decide) _ (fun x hx => y_ldC rfl (Hq.sub hx (List.Subset.trans hG (subC (sub0)))) rfl hs1 2 (by simp) rfl rfl nr100_s9) (fun a hF => ?_)
  refine vp_y hF rfl rfl rfl rfl (by decide) _ (fun x hx => y_move rfl rfl) (fun a hF => ?_)
  refine vp_y hF rfl rfl rfl rfl (by decide) _ (fun x hx => y_nilCheck rfl rfl) (fun a hF => ?_)
  refine vp_y hF rfl rfl rfl rfl (by decide) _ (fun x hx => y_field rfl Tryd.underlying107 rfl sz23_s9 (by decide) rfl (rfl : (⟨_, 0 + _, none⟩ : Addr) = ⟨_, 0, none⟩)) (fun a hF => ?_)
  refine vp_y hF rfl rfl rfl rfl (by decide) _ (fun x hx => y_ldRowC rfl (Hq.sub hx (List.Subset.trans hG (subC (sub0)))) rfl hN 0 (by rw [leafC_len hi]; decide) rfl (leafC_key hi) rw23_s9) (fun a hF => ?_)
  refine vp_y hF rfl rfl rfl rfl (by decide) _ (fun x hx => y_move rfl rfl) (fun a hF => ?_)
  refine vp_y hF rfl rfl rfl rfl (by decide) _ (fun x hx => y_nilCheck rfl rfl) (fun a hF => ?_)
  refine vp_y hF rfl rfl rfl rfl (by decide) _ (fun x hx => y_field rfl Tryd.underlying107 rfl sz25_s9 (by decide) rfl (rfl : (⟨_, 0 + _, none⟩ : Addr) = ⟨_, 32, none⟩)) (fun a hF => ?_)
  refine vp_y hF rfl rfl rfl rfl (by decide) _ (fun x hx => y_ldRowC rfl (Hq.sub hx (List.Subset.trans hG (subC (sub0)))) rfl hN 32 (by rw [leafC_len hi]; decide) rfl (leafC_ent hi) rw25_s9) (fun a hF => ?_)
  refine vp_l rfl rfl rfl (fun K hK => ws_callC hF rfl (by decide) cl82_s9 rfl rfl rfl ?_)
  with_reducible refine (rx_end w0 _ ([row b1 23 (dc (List.replicate 32 0))] :: R) G (List.Subset.trans hG (subC (sub0))) i hi width wb hs2 hT hA4 ).mono ?_
  rintro e' w5 ⟨rfl, hA6⟩
  refine ⟨_, rfl, fun a hF => hK _ _ (fun _ => ?_) ?_⟩
  · exact Hp.qp [[row b1 23 (dc (List.replicate 32 0))]] R [0] hA6
  clear hK K
  replace hA6 : Hp w0 ([row b1 23 (dc (List.replicate 32 0))] :: R) w5 := hA6
  refine vp_l rfl rfl rfl (fun K hK => hs_storeAll (new := dc (entryD width i)) hF rfl rfl hA6 rfl rfl 0 rfl (by rw [hdd]; rfl) (dc_one _) sz23_s9 (fun w7 hA8 => hK _ _ (fun h => absurd h (by decide)) ?_))
  clear hK K
  replace hA8 : Hp w0 ([row b1 23 (dc (entryD width i))] :: R) w7 := hA8
  refine plan_end ?_
  refine hK4 _ _ ?_; clear  hK4 K4
  apply wp_ret
  simp only [Exit.then]
  refine vc_retR hF Tryd.results84 hA8.q rfl 0 rfl (by rw [hdd]; exact rw23_s9) ?_
  have hA9 : Hp w0 (R) w7 := Hp.sel [[row b1 23 (dc (entryD width i))]] R [] [0] hA8 rfl
  exact ⟨rfl, hA9⟩

set_option maxRecDepth 100000 in
set_option maxHeartbeats 2000000 in
theorem rx_height (w0 w : World) (R G : List Seg) (hG : G ⊆ R) (i : Itm) (hi : i.OK) (gn : Nat) (hN : Rw w0 G gn (leafC i)) (hA : Hp w0 R w) : Calls Tryd.prog 85 #[.pointer (some ⟨gn, 0, none⟩)] w fun e w' => e = .returned (.int .i64 0) ∧ Hp w0 R w' := by
  refine vc_enter Tryd.func85 rfl Tryd.ntmps85 (Nat.le_of_ble_eq_true rfl) (fun a hF => ?_)
  apply wp_seq_k; intro K1 hK1
  refine wp_region_lit ?_
  refine vc_y hF rfl rfl (by decide) _ (y_assign rfl rfl) (fun a hF => ?_)
  refine vc_nil ?_
  refine hK1 _ _ ?_; clear  hK1 K1
  apply wp_seq_k; intro K2 hK2
  refine wp_region_lit ?_
  refine vc_y hF rfl rfl (by decide) _ (y_move rfl rfl) (fun a hF => ?_)
  refine vc_y hF rfl rfl (by decide) _ (y_nilCheck rfl rfl) (fun a hF => ?_)
  refine vc_y hF rfl rfl (by decide) _ (y_field rfl Tryd.underlying107 rfl sz3_s9 (by decide) rfl (rfl : (⟨_, 0 + _, none⟩ : Addr) = ⟨_, 66, none⟩)) (fun a hF => ?_)
  refine vc_y hF rfl rfl (by decide) _ (y_ldC rfl (Hq.sub hA.q (List.Subset.trans hG (sub0))) rfl hN 66 (by rw [leafC_len hi]; decide) rfl (leafC_bit hi) nr3_s9) (fun a hF => ?_)
  refine vc_y hF rfl rfl (by decide) _ (y_sub rfl rfl rfl (show IntKind.i64.wrap (256 - 256) = 0 by decide)) (fun a hF => ?_)
  refine vc_y hF rfl rfl (by decide) _ (y_assign rfl rfl) (fun a hF => ?_)
  refine vc_nil ?_
  refine hK2 _ _ ?_; clear  hK2 K2
  apply wp_ret
  refine vc_ret1 hF Tryd.results85 rfl ?_
  exact ⟨rfl, hA⟩

set_option maxRecDepth 100000 in
set_option maxHeartbeats 2000000 in
theorem rx_branch (w0 w : World) (R G : List Seg) (hG : G ⊆ R) (gs : Nat) (width : Int) (k d n : List UInt8) (h : Nat) (hh : h < 256) (hk : k.length = 32) (hd : d.length = 32) (hn : n.length = 32) (hSm : Sm w0 G 82 gs width) (hT : Tab w0) (hA : Hp w0 R w) : Calls Tryd.prog 86 #[.pointer (some ⟨gs, 0, none⟩), .agg (dc k).toArray, .int .i64 (h : Int), .agg (dc d).toArray, .agg (dc n).toArray] w fun e w' => e = .returned (.agg (dc (sideD width k d n h)).toArray) ∧ Hp w0 R w' := by
  obtain ⟨AE, cE, wb, hs1, hs2, hs3⟩ := hSm
  have hdk : (dc k).length = 32 := by rw [dc_length, hk]
  have hdd : (dc d).length = 32 := by rw [dc_length, hd]
  have hdn : (dc n).length = 32 := by rw [dc_length, hn]
  have hds : (dc (sideD width k d n h)).length = 32 := by rw [dc_length, sideD_length]
  refine vc_enter Tryd.func86 rfl Tryd.ntmps86 (Nat.le_of_ble_eq_true rfl) (fun a hF => ?_)
  apply wp_seq_k; intro K1 hK1
  refine wp_region_lit ?_
  refine vc_op rfl (fun K hK => hs_box (cs := dc k) hF rfl (by decide) rfl hA rfl (fun b1 w2 a hb1 hF hA3 => hK _ _ ?_))
  clear hK K
  replace hA3 : Hp w0 ([row b1 23 (dc k)] :: R) w2 := hA3
  refine vc_op rfl (fun K hK => hs_box (cs := dc d) hF rfl (by decide) rfl hA3 rfl (fun b4 w5 a hb4 hF hA6 => hK _ _ ?_))
  clear hK K
  replace hA6 : Hp w0 ([row b4 23 (dc d)] :: [row b1 23 (dc k)] :: R) w5 := hA6
  refine vc_op rfl (fun K hK => hs_box (cs := dc n) hF rfl (by decide) rfl hA6 rfl (fun b7 w8 a hb7 hF hA9 => hK _ _ ?_))
  clear hK K
  replace hA9 : Hp w0 ([row b7 23 (dc n)] :: [row b4 23 (dc d)] :: [row b1 23 (dc k)] :: R) w8 := hA9
  refine vc_op rfl (fun K hK => hs_alloc hF rfl (by decide) rfl hA9 (zr23_s9) (fun b10 w11 a hb10 hF hA12 => hK _ _ ?_))
  clear hK K
  replace hA12 : Hp w0 ([row b10 23 (dc (List.replicate 32 0))] :: [row b7 23 (dc n)] :: [row b4 23 (dc d)] :: [row b1 23 (dc k)] :: R) w11 := hA12
  refine vc_nil ?_
  refine hK1 _ _ ?_; clear  hK1 K1
  apply wp_seq_k; intro K2 hK2
  apply wp_seq_k; intro K3 hK3
  have hkc := keyBit_cases k (255 - h)
  by_cases hkb : keyBit k (255 - h) = 0
  · refine wp_region_lit ?_
    refine vc_y hF rfl rfl (by decide) _ (y_ldRow (new := dc k) rfl hA12.q rfl 3 rfl rw23_s9 (by rw [hdk]; exact Nat.le_refl _) (by rw [List.drop_zero]; exact List.take_of_length_le (by rw [hdk]; exact Nat.le_refl _))) (fun a hF => ?_)
    refine vc_y hF rfl rfl (by decide) _ (y_move rfl rfl) (fun a hF => ?_)
    refine vc_y hF rfl rfl (by decide) _ (y_sub rfl rfl rfl (show IntKind.i64.wrap (255 - (h : Int)) = ((255 - h : Nat) : Int) by rw [IntWalk.i64_in _ (by omega)]; omega)) (fun a hF => ?_)
    refine vc_op rfl (fun K hK => ws_call hF rfl (by decide) cl76_s9 rfl rfl ?_)
    with_reducible refine (sp_bit w0 _ ([row b10 23 (dc (List.replicate 32 0))] :: [row b7 23 (dc n)] :: [row b4 23 (dc d)] :: [row b1 23 (dc k)] :: R) k (255 - h) hk (by omega) hA12 ).mono ?_
    rintro e' w13 ⟨rfl, hA14⟩
    refine ⟨_, rfl, fun a hF => hK _ _ ?_⟩
    clear hK K
    replace hA14 : Hp w0 ([row b10 23 (dc (List.replicate 32 0))] :: [row b7 23 (dc n)] :: [row b4 23 (dc d)] :: [row b1 23 (dc k)] :: R) w13 := hA14
    refine vc_y hF rfl rfl (by decide) _ (y_cmp rfl rfl rfl rfl (eql_t (by omega))) (fun a hF => ?_)
    refine vc_nil ?_
    refine hK3 _ _ ?_; clear  hK3 K3
    refine vc_true hF rfl ?_
    apply wp_seq_k; intro K4 hK4
    refine wp_region_plan 7 [6,7] [0,1,2,3,4,5,6,7] (fun x => Hq w0 ([row b10 23 (dc (List.replicate 32 0))] :: [row b7 23 (dc n)] :: [row b4 23 (dc d)] :: [row b1 23 (dc k)] :: R) x) (by kernel_rfl) (by kernel_rfl) (Hq.drew (Hp.qp [[row b10 23 (dc (List.replicate 32 0))], [row b7 23 (dc n)], [row b4 23 (dc d)], [row b1 23 (dc k)]] R [0, 1, 2, 3] hA14)) ?_
    have hA15 := Hl.drew hA14
    refine vp_y hF rfl rfl rfl rfl (by decide) _ (fun x hx => y_move rfl rfl) (fun a hF => ?_)
    refine vp_y hF rfl rfl rfl rfl (by decide) _ (fun x hx => y_nilCheck rfl rfl) (fun a hF => ?_)
    refine vp_y hF rfl rfl rfl rfl (by decide) _ (fun x hx => y_field rfl Tryd.underlying102 rfl sz3_s9 (by decide) rfl (rfl : (⟨_, 0 + _, none⟩ : Addr) = ⟨_, 0, none⟩)) (fun a hF => ?_)
    refine vp_y hF rfl rfl rfl rfl (by decide) _ (fun x hx => y_ldC rfl (Hq.sub hx (List.Subset.trans hG (subC (subC (subC (subC (sub0))))))) rfl hs1 0 (by simp) rfl rfl nr3_s9) (fun a hF => ?_)
    refine vp_y hF rfl rfl rfl rfl (by decide) _ (fun x hx => y_ldRow (new := dc d) rfl hx rfl 2 rfl rw23_s9 (by rw [hdd]; exact Nat.le_refl _) (by rw [List.drop_zero]; exact List.take_of_length_le (by rw [hdd]; exact Nat.le_refl _))) (fun a hF => ?_)
    refine vp_y hF rfl rfl rfl rfl (by decide) _ (fun x hx => y_ldRow (new := dc n) rfl hx rfl 1 rfl rw23_s9 (by rw [hdn]; exact Nat.le_refl _) (by rw [List.drop_zero]; exact List.take_of_length_le (by rw [hdn]; exact Nat.le_refl _))) (fun a hF => ?_)
    refine vp_l rfl rfl rfl (fun K hK => ws_call hF rfl (by decide) cl96_s9 rfl rfl ?_)
    with_reducible refine (tt_branch w0 _ ([row b10 23 (dc (List.replicate 32 0))] :: [row b7 23 (dc n)] :: [row b4 23 (dc d)] :: [row b1 23 (dc k)] :: R) width d n hd hn hT hA15 ).mono ?_
    rintro e' w16 ⟨rfl, hA17⟩
    refine ⟨_, rfl, fun a hF => hK _ _ (fun _ => ?_) ?_⟩
    · exact Hp.qp [[row b10 23 (dc (List.replicate 32 0))], [row b7 23 (dc n)], [row b4 23 (dc d)], [row b1 23 (dc k)]] R [0, 1, 2, 3] hA17
    clear hK K
    replace hA17 : Hp w0 ([row b10 23 (dc (List.replicate 32 0))] :: [row b7 23 (dc n)] :: [row b4 23 (dc d)] :: [row b1 23 (dc k)] :: R) w16 := hA17
    rw [show ofL width 4 (d ++ n) = sideD width k d n h by unfold sideD; rw [if_pos hkb]; rfl] at hF
    refine vp_l rfl rfl rfl (fun K hK => hs_storeAll (new := dc (sideD width k d n h)) hF rfl rfl hA17 rfl rfl 0 rfl (by rw [hds]; rfl) (dc_one _) sz23_s9 (fun w18 hA19 => hK _ _ (fun h => absurd h (by decide)) ?_))
    clear hK K
    replace hA19 : Hp w0 ([row b10 23 (dc (sideD width k d n h))] :: [row b7 23 (dc n)] :: [row b4 23 (dc d)] :: [row b1 23 (dc k)] :: R) w18 := hA19
    refine plan_end ?_
    refine hK4 _ _ ?_; clear  hK4 K4
    apply wp_ret
    simp only [Exit.then]
    refine vc_retR hF Tryd.results86 hA19.q rfl 0 rfl (by rw [hds]; exact rw23_s9) ?_
    have hA20 : Hp w0 (R) w18 := Hp.sel [[row b10 23 (dc (sideD width k d n h))], [row b7 23 (dc n)], [row b4 23 (dc d)], [row b1 23 (dc k)]] R [] [0, 1, 2, 3] hA19 rfl
    exact ⟨rfl, hA20⟩
  · refine wp_region_lit ?_
    refine vc_y hF rfl rfl (by decide) _ (y_ldRow (new := dc k) rfl hA12.q rfl 3 rfl rw23_s9 (by rw [hdk]; exact Nat.le_refl _) (by rw [List.drop_zero]; exact List.take_of_length_le (by rw [hdk]; exact Nat.le_refl _))) (fun a hF => ?_)
    refine vc_y hF rfl rfl (by decide) _ (y_move rfl rfl) (fun a hF => ?_)
    refine vc_y hF rfl rfl (by decide) _ (y_sub rfl rfl rfl (show IntKind.i64.wrap (255 - (h : Int)) = ((255 - h : Nat) : Int) by rw [IntWalk.i64_in _ (by omega)]; omega)) (fun a hF => ?_)
    refine vc_op rfl (fun K hK => ws_call hF rfl (by decide) cl76_s9 rfl rfl ?_)
    with_reducible refine (sp_bit w0 _ ([row b10 23 (dc (List.replicate 32 0))] :: [row b7 23 (dc n)] :: [row b4 23 (dc d)] :: [row b1 23 (dc k)] :: R) k (255 - h) hk (by omega) hA12 ).mono ?_
    rintro e' w21 ⟨rfl, hA22⟩
    refine ⟨_, rfl, fun a hF => hK _ _ ?_⟩
    clear hK K
    replace hA22 : Hp w0 ([row b10 23 (dc (List.replicate 32 0))] :: [row b7 23 (dc n)] :: [row b4 23 (dc d)] :: [row b1 23 (dc k)] :: R) w21 := hA22
    refine vc_y hF rfl rfl (by decide) _ (y_cmp rfl rfl rfl rfl (eql_f (by omega))) (fun a hF => ?_)
    refine vc_nil ?_
    refine hK3 _ _ ?_; clear  hK3 K3
    refine vc_false hF rfl ?_
    apply wp_skip
    refine hK2 _ _ ?_; clear  hK2 K2
    apply wp_seq_k; intro K5 hK5
    refine wp_region_plan 7 [6,7] [0,1,2,3,4,5,6,7] (fun x => Hq w0 ([row b10 23 (dc (List.replicate 32 0))] :: [row b7 23 (dc n)] :: [row b4 23 (dc d)] :: [row b1 23 (dc k)] :: R) x) (by kernel_rfl) (by kernel_rfl) (Hq.drew (Hp.qp [[row b10 23 (dc (List.replicate 32 0))], [row b7 23 (dc n)], [row b4 23 (dc d)], [row b1 23 (dc k)]] R [0, 1, 2, 3] hA22)) ?_
    have hA23 := Hl.drew hA22
    refine vp_y hF rfl rfl rfl rfl (by decide) _ (fun x hx => y_move rfl rfl) (fun a hF => ?_)
    refine vp_y hF rfl rfl rfl rfl (by decide) _ (fun x hx => y_nilCheck rfl rfl) (fun a hF => ?_)
    refine vp_y hF rfl rfl rfl rfl (by decide) _ (fun x hx => y_field rfl Tryd.underlying102 rfl sz3_s9 (by decide) rfl (rfl : (⟨_, 0 + _, none⟩ : Addr) = ⟨_, 0, none⟩)) (fun a hF => ?_)
    refine vp_y hF rfl rfl rfl rfl (by decide) _ (fun x hx => y_ldC rfl (Hq.sub hx (List.Subset.trans hG (subC (subC (subC (subC (sub0))))))) rfl hs1 0 (by simp) rfl rfl nr3_s9) (fun a hF => ?_)
    refine vp_y hF rfl rfl rfl rfl (by decide) _ (fun x hx => y_ldRow (new := dc n) rfl hx rfl 1 rfl rw23_s9 (by rw [hdn]; exact Nat.le_refl _) (by rw [List.drop_zero]; exact List.take_of_length_le (by rw [hdn]; exact Nat.le_refl _))) (fun a hF => ?_)
    refine vp_y hF rfl rfl rfl rfl (by decide) _ (fun x hx => y_ldRow (new := dc d) rfl hx rfl 2 rfl rw23_s9 (by rw [hdd]; exact Nat.le_refl _) (by rw [List.drop_zero]; exact List.take_of_length_le (by rw [hdd]; exact Nat.le_refl _))) (fun a hF => ?_)
    refine vp_l rfl rfl rfl (fun K hK => ws_call hF rfl (by decide) cl96_s9 rfl rfl ?_)
    with_reducible refine (tt_branch w0 _ ([row b10 23 (dc (List.replicate 32 0))] :: [row b7 23 (dc n)] :: [row b4 23 (dc d)] :: [row b1 23 (dc k)] :: R) width n d hn hd hT hA23 ).mono ?_
    rintro e' w24 ⟨rfl, hA25⟩
    refine ⟨_, rfl, fun a hF => hK _ _ (fun _ => ?_) ?_⟩
    · exact Hp.qp [[row b10 23 (dc (List.replicate 32 0))], [row b7 23 (dc n)], [row b4 23 (dc d)], [row b1 23 (dc k)]] R [0, 1, 2, 3] hA25
    clear hK K
    replace hA25 : Hp w0 ([row b10 23 (dc (List.replicate 32 0))] :: [row b7 23 (dc n)] :: [row b4 23 (dc d)] :: [row b1 23 (dc k)] :: R) w24 := hA25
    rw [show ofL width 4 (n ++ d) = sideD width k d n h by unfold sideD; rw [if_neg hkb]; rfl] at hF
    refine vp_l rfl rfl rfl (fun K hK => hs_storeAll (new := dc (sideD width k d n h)) hF rfl rfl hA25 rfl rfl 0 rfl (by rw [hds]; rfl) (dc_one _) sz23_s9 (fun w26 hA27 => hK _ _ (fun h => absurd h (by decide)) ?_))
    clear hK K
    replace hA27 : Hp w0 ([row b10 23 (dc (sideD width k d n h))] :: [row b7 23 (dc n)] :: [row b4 23 (dc d)] :: [row b1 23 (dc k)] :: R) w26 := hA27
    refine plan_end ?_
    refine hK5 _ _ ?_; clear  hK5 K5
    apply wp_ret
    refine vc_retR hF Tryd.results86 hA27.q rfl 0 rfl (by rw [hds]; exact rw23_s9) ?_
    have hA28 : Hp w0 (R) w26 := Hp.sel [[row b10 23 (dc (sideD width k d n h))], [row b7 23 (dc n)], [row b4 23 (dc d)], [row b1 23 (dc k)]] R [] [0, 1, 2, 3] hA27 rfl
    exact ⟨rfl, hA28⟩

set_option maxRecDepth 100000 in
set_option maxHeartbeats 2000000 in
theorem rx_lift (w0 w : World) (R G : List Seg) (hG : G ⊆ R) (i : Itm) (hi : i.OK) (gn : Nat) (hN : Rw w0 G gn (leafC i)) (gs : Nat) (width : Int) (hSm : Sm w0 G 82 gs width) (hT : Tab w0) (hA : Hp w0 R w) : Calls Tryd.prog 55 #[.pointer (some ⟨gs, 0, none⟩), .pointer (some ⟨gn, 0, none⟩), .int .i64 256] w fun e w' => e = .returned (.agg (dc (liftD width i.k (entryD width i) 0 256)).toArray) ∧ Hp w0 R w' := by
  have hSm2 := hSm
  obtain ⟨AE, cE, wb, hs1, hs2, hs3⟩ := hSm2
  have hel : (entryD width i).length = 32 := entryD_length ..
  have hdd : (dc (entryD width i)).length = 32 := by rw [dc_length, hel]
  refine vc_enter Tryd.func55 rfl Tryd.ntmps55 (Nat.le_of_ble_eq_true rfl) (fun a hF => ?_)
  apply wp_seq_k; intro K1 hK1
  refine wp_region_lit ?_
  refine vc_op rfl (fun K hK => hs_alloc hF rfl (by decide) rfl hA (zr23_s9) (fun b1 w2 a hb1 hF hA3 => hK _ _ ?_))
  clear hK K
  replace hA3 : Hp w0 ([row b1 23 (dc (List.replicate 32 0))] :: R) w2 := hA3
  refine vc_nil ?_
  refine hK1 _ _ ?_; clear  hK1 K1
  apply wp_seq_k; intro K2 hK2
  refine wp_region_lit ?_
  refine vc_y hF rfl rfl (by decide) _ (y_move rfl rfl) (fun a hF => ?_)
  refine vc_y hF rfl rfl (by decide) _ (y_move rfl rfl) (fun a hF => ?_)
  refine vc_op rfl (fun K hK => ws_call hF rfl (by decide) cl84_s9 rfl rfl ?_)
  with_reducible refine (rx_own w0 _ ([row b1 23 (dc (List.replicate 32 0))] :: R) G (List.Subset.trans hG (subC (sub0))) i hi gn hN gs width hSm hT hA3 ).mono ?_
  rintro e' w4 ⟨rfl, hA5⟩
  refine ⟨_, rfl, fun a hF => hK _ _ ?_⟩
  clear hK K
  replace hA5 : Hp w0 ([row b1 23 (dc (List.replicate 32 0))] :: R) w4 := hA5
  refine vc_op rfl (fun K hK => hs_alloc hF rfl (by decide) rfl hA5 (zr23_s9) (fun b6 w7 a hb6 hF hA8 => hK _ _ ?_))
  clear hK K
  replace hA8 : Hp w0 ([row b6 23 (dc (List.replicate 32 0))] :: [row b1 23 (dc (List.replicate 32 0))] :: R) w7 := hA8
  refine vc_op rfl (fun K hK => hs_storeAll (new := dc (entryD width i)) hF rfl rfl hA8 rfl rfl 0 rfl (by rw [hdd]; rfl) (dc_one _) sz23_s9 (fun w9 hA10 => hK _ _ ?_))
  clear hK K
  replace hA10 : Hp w0 ([row b6 23 (dc (entryD width i))] :: [row b1 23 (dc (List.replicate 32 0))] :: R) w9 := hA10
  refine vc_nil ?_
  refine hK2 _ _ ?_; clear  hK2 K2
  apply wp_seq_k; intro K3 hK3
  apply wp_seq_k; intro K4 hK4
  refine wp_region_lit ?_
  refine vc_y hF rfl rfl (by decide) _ (y_move rfl rfl) (fun a hF => ?_)
  refine vc_op rfl (fun K hK => ws_call hF rfl (by decide) cl85_s9 rfl rfl ?_)
  with_reducible refine (rx_height w0 _ ([row b6 23 (dc (entryD width i))] :: [row b1 23 (dc (List.replicate 32 0))] :: R) G (List.Subset.trans hG (subC (subC (sub0)))) i hi gn hN hA10 ).mono ?_
  rintro e' w11 ⟨rfl, hA12⟩
  refine ⟨_, rfl, fun a hF => hK _ _ ?_⟩
  clear hK K
  replace hA12 : Hp w0 ([row b6 23 (dc (entryD width i))] :: [row b1 23 (dc (List.replicate 32 0))] :: R) w11 := hA12
  refine vc_y hF rfl rfl (by decide) _ (y_assign rfl rfl) (fun a hF => ?_)
  refine vc_nil ?_
  refine hK4 _ _ ?_; clear  hK4 K4
  apply wp_block
  have hA13 : Hp w0 ([row b6 23 (dc (liftD width i.k (entryD width i) 0 0))] :: [row b1 23 (dc (List.replicate 32 0))] :: R) w11 := hA12
  refine vc_loop (G := Nat) (fun h a x => h ≤ 256 ∧ Fr 35 [(8, .int .i64 (h : Int)), (0, .pointer (some ⟨gs, 0, none⟩)), (1, .pointer (some ⟨gn, 0, none⟩)), (2, .int .i64 256), (6, .pointer (some ⟨b1, 0, none⟩)), (7, .pointer (some ⟨b6, 0, none⟩))] a ∧ Hp w0 ([row b6 23 (dc (liftD width i.k (entryD width i) 0 h))] :: [row b1 23 (dc (List.replicate 32 0))] :: R) x) (fun h => 256 - h) 0 (⟨Nat.zero_le _, hF.keep [8, 0, 1, 2, 6, 7] rfl, hA13⟩) ?_
  clear hF
  rintro h a w15 ⟨hh, hF, hA14⟩
  apply wp_seq_k; intro K5 hK5
  apply wp_seq_k; intro K6 hK6
  refine wp_region_lit ?_
  refine vc_y hF rfl rfl (by decide) _ (y_move rfl rfl) (fun a hF => ?_)
  refine vc_y hF rfl rfl (by decide) _ (y_move rfl rfl) (fun a hF => ?_)
  refine vc_y hF rfl rfl (by decide) _ (y_cmp rfl rfl rfl rfl rfl) (fun a hF => ?_)
  refine vc_nil ?_
  refine hK6 _ _ ?_; clear  hK6 K6
  by_cases hlt : h < 256
  · refine vc_trueB hF rfl (lss_t (by omega)) ?_
    have hl : (liftD width i.k (entryD width i) 0 h).length = 32 := liftD_length hel 0 h
    have hdl : (dc (liftD width i.k (entryD width i) 0 h)).length = 32 := by rw [dc_length, hl]
    have hdle := emptyL_length width
    obtain ⟨herd, hele⟩ := digs_rd (emptyL width) 257 h (fun i _ => hdle i) (by omega)
    obtain ⟨be_, qe, hAE, hce⟩ := hs3.ne (i := h * 32) (by omega)
    apply wp_skip
    refine hK5 _ _ ?_; clear  hK5 K5
    apply wp_seq_k; intro K7 hK7
    apply wp_block
    refine wp_region_plan 15 [14,15] [0,1,2,3,4,5,6,7,8,9,10,11,12,13,14,15] (fun x => Hq w0 ([row b6 23 (dc (liftD width i.k (entryD width i) 0 h))] :: [row b1 23 (dc (List.replicate 32 0))] :: R) x) (by kernel_rfl) (by kernel_rfl) (Hq.drew (Hp.qp [[row b6 23 (dc (liftD width i.k (entryD width i) 0 h))], [row b1 23 (dc (List.replicate 32 0))]] R [0, 1] hA14)) ?_
    have hA16 := Hl.drew hA14
    refine vp_y hF rfl rfl rfl rfl (by decide) _ (fun x hx => y_move rfl rfl) (fun a hF => ?_)
    refine vp_y hF rfl rfl rfl rfl (by decide) _ (fun x hx => y_move rfl rfl) (fun a hF => ?_)
    refine vp_y hF rfl rfl rfl rfl (by decide) _ (fun x hx => y_nilCheck rfl rfl) (fun a hF => ?_)
    refine vp_y hF rfl rfl rfl rfl (by decide) _ (fun x hx => y_field rfl Tryd.underlying107 rfl sz23_s9 (by decide) rfl (rfl : (⟨_, 0 + _, none⟩ : Addr) = ⟨_, 0, none⟩)) (fun a hF => ?_)
    refine vp_y hF rfl rfl rfl rfl (by decide) _ (fun x hx => y_ldRowC rfl (Hq.sub hx (List.Subset.trans hG (subC (subC (sub0))))) rfl hN 0 (by rw [leafC_len hi]; decide) rfl (leafC_key hi) rw23_s9) (fun a hF => ?_)
    refine vp_y hF rfl rfl rfl rfl (by decide) _ (fun x hx => y_move rfl rfl) (fun a hF => ?_)
    refine vp_y hF rfl rfl rfl rfl (by decide) _ (fun x hx => y_ldRow (new := dc (liftD width i.k (entryD width i) 0 h)) rfl hx rfl 0 rfl rw23_s9 (by rw [hdl]; exact Nat.le_refl _) (by rw [List.drop_zero]; exact List.take_of_length_le (by rw [hdl]; exact Nat.le_refl _))) (fun a hF => ?_)
    refine vp_y hF rfl rfl rfl rfl (by decide) _ (fun x hx => y_move rfl rfl) (fun a hF => ?_)
    refine vp_y hF rfl rfl rfl rfl (by decide) _ (fun x hx => y_nilCheck rfl rfl) (fun a hF => ?_)
    refine vp_y hF rfl rfl rfl rfl (by decide) _ (fun x hx => y_field rfl Tryd.underlying102 rfl sz26_s9 (by decide) rfl (rfl : (⟨_, 0 + _, none⟩ : Addr) = ⟨_, 1, none⟩)) (fun a hF => ?_)
    refine vp_y hF rfl rfl rfl rfl (by decide) _ (fun x hx => y_ldC rfl (Hq.sub hx (List.Subset.trans hG (subC (subC (sub0))))) rfl hs1 1 (by simp) rfl rfl nr26_s9) (fun a hF => ?_)
    refine vp_y hF rfl rfl rfl rfl (by decide) _ (fun x hx => y_move rfl rfl) (fun a hF => ?_)
    refine vp_y hF rfl rfl rfl rfl (by decide) _ (fun x hx => y_ixSl rfl Tryd.underlying26 sz23_s9 (by exact congrArg (fun A => some (Value.slice A 257 cE)) hAE) rfl h rfl (by omega) rfl) (fun a hF => ?_)
    refine vp_y hF rfl rfl rfl rfl (by decide) _ (fun x hx => y_ldRowC rfl (Hq.sub hx (List.Subset.trans hG (subC (subC (sub0))))) rfl hce (h * 32) hele rfl herd rw23_s9) (fun a hF => ?_)
    refine vp_l rfl rfl rfl (fun K hK => ws_call hF rfl (by decide) cl86_s9 rfl rfl ?_)
    with_reducible refine (rx_branch w0 _ ([row b6 23 (dc (liftD width i.k (entryD width i) 0 h))] :: [row b1 23 (dc (List.replicate 32 0))] :: R) G (List.Subset.trans hG (subC (subC (sub0)))) gs width i.k (liftD width i.k (entryD width i) 0 h) (emptyL width h) h hlt hi.k hl (hdle h) hSm hT hA16 ).mono ?_
    rintro e' w17 ⟨rfl, hA18⟩
    refine ⟨_, rfl, fun a hF => hK _ _ (fun _ => ?_) ?_⟩
    · exact Hp.qp [[row b6 23 (dc (liftD width i.k (entryD width i) 0 h))], [row b1 23 (dc (List.replicate 32 0))]] R [0, 1] hA18
    clear hK K
    replace hA18 : Hp w0 ([row b6 23 (dc (liftD width i.k (entryD width i) 0 h))] :: [row b1 23 (dc (List.replicate 32 0))] :: R) w17 := hA18
    rw [show sideD width i.k (liftD width i.k (entryD width i) 0 h) (emptyL width h) h = liftD width i.k (entryD width i) 0 (h + 1) by show _ = sideD width i.k _ (emptyL width (0 + h)) (0 + h); rw [Nat.zero_add]] at hF
    refine vp_l rfl rfl rfl (fun K hK => hs_storeAll (new := dc (liftD width i.k (entryD width i) 0 (h + 1))) hF rfl rfl hA18 rfl rfl 0 rfl (by rw [hdl, dc_length, liftD_length hel]) (dc_one _) (by rw [hdl]; exact sz23_s9) (fun w19 hA20 => hK _ _ (fun h => absurd h (by decide)) ?_))
    clear hK K
    replace hA20 : Hp w0 ([row b6 23 (dc (liftD width i.k (entryD width i) 0 (h + 1)))] :: [row b1 23 (dc (List.replicate 32 0))] :: R) w19 := hA20
    refine plan_end ?_
    refine hK7 _ _ ?_; clear  hK7 K7
    refine wp_region_lit ?_
    refine vc_y hF rfl rfl (by decide) _ (y_move rfl rfl) (fun a hF => ?_)
    refine vc_y hF rfl rfl (by decide) _ (y_add rfl rfl rfl (IntWalk.i64_in _ (by omega))) (fun a hF => ?_)
    refine vc_y hF rfl rfl (by decide) _ (y_assign rfl rfl) (fun a hF => ?_)
    refine vc_nil ?_
    exact ⟨h + 1, by omega, by omega, hF.keep [8, 0, 1, 2, 6, 7] rfl, hA20⟩
  · refine vc_falseB hF rfl (lss_f (by omega)) ?_
    obtain rfl : h = 256 := by omega
    have hdl : (dc (liftD width i.k (entryD width i) 0 256)).length = 32 := by rw [dc_length, liftD_length hel]
    apply wp_exit
    refine hK3 _ _ ?_; clear hK5 K5 hK3 K3
    apply wp_seq_k; intro K8 hK8
    refine wp_region_lit ?_
    refine vc_y hF rfl rfl (by decide) _ (y_ldRow (new := dc (liftD width i.k (entryD width i) 0 256)) rfl hA14.q rfl 0 rfl rw23_s9 (by rw [hdl]; exact Nat.le_refl _) (by rw [List.drop_zero]; exact List.take_of_length_le (by rw [hdl]; exact Nat.le_refl _))) (fun a hF => ?_)
    refine vc_op rfl (fun K hK => hs_storeAll (new := dc (liftD width i.k (entryD width i) 0 256)) hF rfl rfl hA14 rfl rfl 1 rfl (by rw [hdl]; rfl) (dc_one _) sz23_s9 (fun w21 hA22 => hK _ _ ?_))
    clear hK K
    replace hA22 : Hp w0 ([row b6 23 (dc (liftD width i.k (entryD width i) 0 256))] :: [row b1 23 (dc (liftD width i.k (entryD width i) 0 256))] :: R) w21 := hA22
    refine vc_nil ?_
    refine hK8 _ _ ?_; clear  hK8 K8
    apply wp_ret
    refine vc_retR hF Tryd.results55 hA22.q rfl 1 rfl (by rw [hdl]; exact rw23_s9) ?_
    have hA23 : Hp w0 (R) w21 := Hp.sel [[row b6 23 (dc (liftD width i.k (entryD width i) 0 256))], [row b1 23 (dc (liftD width i.k (entryD width i) 0 256))]] R [] [0, 1] hA22 rfl
    exact ⟨rfl, hA23⟩

set_option maxRecDepth 100000 in
set_option maxHeartbeats 2000000 in
theorem rx_put0 (w0 w : World) (R : List Seg) (i : Itm) (hi : i.OK) (sv : Value) (hA : Hp w0 R w) : Calls Tryd.prog 57 #[.pointer none, .agg (dc i.k).toArray, .agg (.int .i64 i.ct :: dc i.ch).toArray, sv] w fun e w' => ∃ g, e = .returned (.pointer (some ⟨g, 0, none⟩)) ∧ Hp w0 ([row g 107 (leafC i)] :: R) w' := by
  have hdk : (dc i.k).length = 32 := by rw [dc_length, hi.k]
  have hde : (Value.int .i64 i.ct :: dc i.ch).length = 33 := by rw [List.length_cons, dc_length, hi.ch]
  refine vc_enter Tryd.func57 rfl Tryd.ntmps57 (Nat.le_of_ble_eq_true rfl) (fun a hF => ?_)
  apply wp_seq_k; intro K1 hK1
  refine wp_region_lit ?_
  refine vc_op rfl (fun K hK => hs_box (cs := dc i.k) hF rfl (by decide) rfl hA rfl (fun b1 w2 a hb1 hF hA3 => hK _ _ ?_))
  clear hK K
  replace hA3 : Hp w0 ([row b1 23 (dc i.k)] :: R) w2 := hA3
  refine vc_op rfl (fun K hK => hs_box (cs := .int .i64 i.ct :: dc i.ch) hF rfl (by decide) rfl hA3 rfl (fun b4 w5 a hb4 hF hA6 => hK _ _ ?_))
  clear hK K
  replace hA6 : Hp w0 ([row b4 25 (.int .i64 i.ct :: dc i.ch)] :: [row b1 23 (dc i.k)] :: R) w5 := hA6
  refine vc_y hF rfl rfl (by decide) _ (y_assign rfl rfl) (fun a hF => ?_)
  refine vc_nil ?_
  refine hK1 _ _ ?_; clear  hK1 K1
  apply wp_seq_k; intro K2 hK2
  refine wp_region_lit ?_
  refine vc_y hF rfl rfl (by decide) _ (y_ldRow (new := dc i.k) rfl hA6.q rfl 1 rfl rw23_s9 (by rw [hdk]; exact Nat.le_refl _) (by rw [List.drop_zero]; exact List.take_of_length_le (by rw [hdk]; exact Nat.le_refl _))) (fun a hF => ?_)
  refine vc_y hF rfl rfl (by decide) _ (y_ldRow (new := .int .i64 i.ct :: dc i.ch) rfl hA6.q rfl 0 rfl rw25_s9 (by rw [hde]; exact Nat.le_refl _) (by rw [List.drop_zero]; exact List.take_of_length_le (by rw [hde]; exact Nat.le_refl _))) (fun a hF => ?_)
  refine vc_y hF rfl rfl (by decide) _ (y_build (v := .agg (leafC i).toArray) (qs := #[(0, .agg (dc i.k).toArray), (1, .agg (.int .i64 i.ct :: dc i.ch).toArray), (2, .int .i64 1), (3, .int .i64 256)]) rfl rfl (by exact rx_node hi)) (fun a hF => ?_)
  refine vc_op rfl (fun K hK => hs_box (cs := leafC i) hF rfl (by decide) rfl hA6 rfl (fun b7 w8 a hb7 hF hA9 => hK _ _ ?_))
  clear hK K
  replace hA9 : Hp w0 ([row b7 107 (leafC i)] :: [row b4 25 (.int .i64 i.ct :: dc i.ch)] :: [row b1 23 (dc i.k)] :: R) w8 := hA9
  refine vc_y hF rfl rfl (by decide) _ (y_assign rfl rfl) (fun a hF => ?_)
  refine vc_nil ?_
  refine hK2 _ _ ?_; clear  hK2 K2
  apply wp_seq_k; intro K3 hK3
  apply wp_seq_k; intro K4 hK4
  refine wp_region_lit ?_
  refine vc_y hF rfl rfl (by decide) _ (y_move rfl rfl) (fun a hF => ?_)
  refine vc_y hF rfl rfl (by decide) _ (y_eqNilT rfl (by kernel_rfl) rfl rfl) (fun a hF => ?_)
  refine vc_nil ?_
  refine hK4 _ _ ?_; clear  hK4 K4
  refine vc_true hF rfl ?_
  apply wp_seq_k; intro K5 hK5
  refine wp_region_lit ?_
  refine vc_y hF rfl rfl (by decide) _ (y_move rfl rfl) (fun a hF => ?_)
  refine vc_y hF rfl rfl (by decide) _ (y_assign rfl rfl) (fun a hF => ?_)
  refine vc_nil ?_
  refine hK5 _ _ ?_; clear  hK5 K5
  apply wp_ret
  simp only [Exit.then]
  refine vc_ret1 hF Tryd.results57 rfl ?_
  have hA10 : Hp w0 ([row b7 107 (leafC i)] :: R) w8 := Hp.sel [[row b7 107 (leafC i)], [row b4 25 (.int .i64 i.ct :: dc i.ch)], [row b1 23 (dc i.k)]] R [0] [1, 2] hA9 rfl
  exact ⟨b7, rfl, hA10⟩

set_option maxRecDepth 100000 in
set_option maxHeartbeats 2000000 in
theorem rx_tput (w0 w : World) (R : List Seg) (i : Itm) (hi : i.OK) (hct : 1 ≤ i.ct ∧ i.ct ≤ 1099511627776) (hT : Tab w0) (hA : Hp w0 R w) : Calls Tryd.prog 22 #[.agg ([.pointer none, .slice none 0 0] : List Value).toArray, .agg (dc i.k).toArray, .agg (.int .i64 i.ct :: dc i.ch).toArray] w fun e w' => ∃ gn A c X, e = .returned (.tuple #[.agg ([.pointer (some ⟨gn, 0, none⟩), .slice A 257 c] : List Value).toArray, .int .i64 0]) ∧ Rc w0 [X] A (digs (emptyL 32) 257) ∧ Hp w0 ([row gn 107 (leafC i)] :: X :: R) w' := by
  have hdk : (dc i.k).length = 32 := by rw [dc_length, hi.k]
  have hde : (Value.int .i64 i.ct :: dc i.ch).length = 33 := by rw [List.length_cons, dc_length, hi.ch]
  refine vc_enter Tryd.func22 rfl Tryd.ntmps22 (Nat.le_of_ble_eq_true rfl) (fun a hF => ?_)
  apply wp_seq_k; intro K1 hK1
  refine wp_region_lit ?_
  refine vc_op rfl (fun K hK => hs_box (cs := [.pointer none, .slice none 0 0]) hF rfl (by decide) rfl hA rfl (fun b1 w2 a hb1 hF hA3 => hK _ _ ?_))
  clear hK K
  replace hA3 : Hp w0 ([row b1 45 [.pointer none, .slice none 0 0]] :: R) w2 := hA3
  refine vc_op rfl (fun K hK => hs_box (cs := dc i.k) hF rfl (by decide) rfl hA3 rfl (fun b4 w5 a hb4 hF hA6 => hK _ _ ?_))
  clear hK K
  replace hA6 : Hp w0 ([row b4 23 (dc i.k)] :: [row b1 45 [.pointer none, .slice none 0 0]] :: R) w5 := hA6
  refine vc_op rfl (fun K hK => hs_box (cs := .int .i64 i.ct :: dc i.ch) hF rfl (by decide) rfl hA6 rfl (fun b7 w8 a hb7 hF hA9 => hK _ _ ?_))
  clear hK K
  replace hA9 : Hp w0 ([row b7 25 (.int .i64 i.ct :: dc i.ch)] :: [row b4 23 (dc i.k)] :: [row b1 45 [.pointer none, .slice none 0 0]] :: R) w8 := hA9
  refine vc_op rfl (fun K hK => hs_alloc hF rfl (by decide) rfl hA9 (zr45_s9) (fun b10 w11 a hb10 hF hA12 => hK _ _ ?_))
  clear hK K
  replace hA12 : Hp w0 ([row b10 45 [.pointer none, .slice none 0 0]] :: [row b7 25 (.int .i64 i.ct :: dc i.ch)] :: [row b4 23 (dc i.k)] :: [row b1 45 [.pointer none, .slice none 0 0]] :: R) w11 := hA12
  refine vc_y hF rfl rfl (by decide) _ (y_assign rfl rfl) (fun a hF => ?_)
  refine vc_nil ?_
  refine hK1 _ _ ?_; clear  hK1 K1
  apply wp_seq_k; intro K2 hK2
  apply wp_seq_k; intro K3 hK3
  refine wp_region_lit ?_
  refine vc_y hF rfl rfl (by decide) _ (y_ldRow (new := .int .i64 i.ct :: dc i.ch) rfl hA12.q rfl 1 rfl rw25_s9 (by rw [hde]; exact Nat.le_refl _) (by rw [List.drop_zero]; exact List.take_of_length_le (by rw [hde]; exact Nat.le_refl _))) (fun a hF => ?_)
  refine vc_op rfl (fun K hK => ws_call hF rfl (by decide) cl56_s9 rfl rfl ?_)
  with_reducible refine (sp_counted w0 _ ([row b10 45 [.pointer none, .slice none 0 0]] :: [row b7 25 (.int .i64 i.ct :: dc i.ch)] :: [row b4 23 (dc i.k)] :: [row b1 45 [.pointer none, .slice none 0 0]] :: R) i.ct i.ch hA12 ).mono ?_
  rintro e' w13 ⟨rfl, hA14⟩
  refine ⟨_, rfl, fun a hF => hK _ _ ?_⟩
  clear hK K
  replace hA14 : Hp w0 ([row b10 45 [.pointer none, .slice none 0 0]] :: [row b7 25 (.int .i64 i.ct :: dc i.ch)] :: [row b4 23 (dc i.k)] :: [row b1 45 [.pointer none, .slice none 0 0]] :: R) w13 := hA14
  rw [decide_eq_true hct] at hF
  refine vc_y hF rfl rfl (by decide) _ (y_not rfl rfl rfl) (fun a hF => ?_)
  refine vc_nil ?_
  refine hK3 _ _ ?_; clear  hK3 K3
  refine vc_false hF rfl ?_
  apply wp_skip
  refine hK2 _ _ ?_; clear  hK2 K2
  apply wp_seq_k; intro K4 hK4
  refine wp_region_lit ?_
  refine vc_y hF rfl rfl (by decide) _ (y_field rfl Tryd.underlying45 rfl sz26_s9 (by decide) rfl (rfl : (⟨_, 0 + _, none⟩ : Addr) = ⟨_, 1, none⟩)) (fun a hF => ?_)
  refine vc_y hF rfl rfl (by decide) _ (y_ld rfl hA14.q rfl 3 rfl rfl nr26_s9) (fun a hF => ?_)
  refine vc_op rfl (fun K hK => ws_call hF rfl (by decide) cl54_s9 rfl rfl ?_)
  with_reducible refine (rx_at0 w0 _ ([row b10 45 [.pointer none, .slice none 0 0]] :: [row b7 25 (.int .i64 i.ct :: dc i.ch)] :: [row b4 23 (dc i.k)] :: [row b1 45 [.pointer none, .slice none 0 0]] :: R) 32 32 (by decide) hT hA14 ).mono ?_
  rintro e' w15 ⟨gs, wb, A, c, X, rfl, hRc, hA16⟩
  refine ⟨_, rfl, fun a hF => hK _ _ ?_⟩
  clear hK K
  replace hA16 : Hp w0 ([row gs 102 [.int .i64 32, .slice A 257 c, .func (.func 82) #[] #[.pointer (some ⟨wb, 0, none⟩)]]] :: [row wb 3 [.int .i64 32]] :: X :: [row b10 45 [.pointer none, .slice none 0 0]] :: [row b7 25 (.int .i64 i.ct :: dc i.ch)] :: [row b4 23 (dc i.k)] :: [row b1 45 [.pointer none, .slice none 0 0]] :: R) w15 := hA16
  refine vc_y hF rfl rfl (by decide) _ (y_assign rfl rfl) (fun a hF => ?_)
  refine vc_nil ?_
  refine hK4 _ _ ?_; clear  hK4 K4
  apply wp_seq_k; intro K5 hK5
  refine wp_region_plan 11 [5,11,12] [0,1,2,3,4,6,7,8,9,5,10,11,12] (fun x => Hq w0 ([row gs 102 [.int .i64 32, .slice A 257 c, .func (.func 82) #[] #[.pointer (some ⟨wb, 0, none⟩)]]] :: [row wb 3 [.int .i64 32]] :: X :: [row b10 45 [.pointer none, .slice none 0 0]] :: [row b7 25 (.int .i64 i.ct :: dc i.ch)] :: [row b4 23 (dc i.k)] :: [row b1 45 [.pointer none, .slice none 0 0]] :: R) x) (by kernel_rfl) (by kernel_rfl) (Hq.drew (Hp.qp [[row gs 102 [.int .i64 32, .slice A 257 c, .func (.func 82) #[] #[.pointer (some ⟨wb, 0, none⟩)]]], [row wb 3 [.int .i64 32]], X, [row b10 45 [.pointer none, .slice none 0 0]], [row b7 25 (.int .i64 i.ct :: dc i.ch)], [row b4 23 (dc i.k)], [row b1 45 [.pointer none, .slice none 0 0]]] R [0, 1, 2, 3, 4, 5, 6] hA16)) ?_
  have hA17 := Hl.drew hA16
  refine vp_y hF rfl rfl rfl rfl (by decide) _ (fun x hx => y_field rfl Tryd.underlying45 rfl sz43_s9 (by decide) rfl (rfl : (⟨_, 0 + _, none⟩ : Addr) = ⟨_, 0, none⟩)) (fun a hF => ?_)
  refine vp_y hF rfl rfl rfl rfl (by decide) _ (fun x hx => y_ld rfl hx rfl 6 rfl rfl nr43_s9) (fun a hF => ?_)
  refine vp_y hF rfl rfl rfl rfl (by decide) _ (fun x hx => y_ldRow (new := dc i.k) rfl hx rfl 5 rfl rw23_s9 (by rw [hdk]; exact Nat.le_refl _) (by rw [List.drop_zero]; exact List.take_of_length_le (by rw [hdk]; exact Nat.le_refl _))) (fun a hF => ?_)
  refine vp_y hF rfl rfl rfl rfl (by decide) _ (fun x hx => y_ldRow (new := .int .i64 i.ct :: dc i.ch) rfl hx rfl 4 rfl rw25_s9 (by rw [hde]; exact Nat.le_refl _) (by rw [List.drop_zero]; exact List.take_of_length_le (by rw [hde]; exact Nat.le_refl _))) (fun a hF => ?_)
  refine vp_y hF rfl rfl rfl rfl (by decide) _ (fun x hx => y_move rfl rfl) (fun a hF => ?_)
  refine vp_y hF rfl rfl rfl rfl (by decide) _ (fun x hx => y_move rfl rfl) (fun a hF => ?_)
  refine vp_y hF rfl rfl rfl rfl (by decide) _ (fun x hx => y_nilCheck rfl rfl) (fun a hF => ?_)
  refine vp_y hF rfl rfl rfl rfl (by decide) _ (fun x hx => y_field rfl Tryd.underlying102 rfl sz26_s9 (by decide) rfl (rfl : (⟨_, 0 + _, none⟩ : Addr) = ⟨_, 1, none⟩)) (fun a hF => ?_)
  refine vp_y hF rfl rfl rfl rfl (by decide) _ (fun x hx => y_ld rfl hx rfl 0 rfl rfl nr26_s9) (fun a hF => ?_)
  refine vp_l rfl rfl rfl (fun K hK => ws_call hF rfl (by decide) cl57_s9 rfl rfl ?_)
  with_reducible refine (rx_put0 w0 _ ([row gs 102 [.int .i64 32, .slice A 257 c, .func (.func 82) #[] #[.pointer (some ⟨wb, 0, none⟩)]]] :: [row wb 3 [.int .i64 32]] :: X :: [row b10 45 [.pointer none, .slice none 0 0]] :: [row b7 25 (.int .i64 i.ct :: dc i.ch)] :: [row b4 23 (dc i.k)] :: [row b1 45 [.pointer none, .slice none 0 0]] :: R) i hi _ hA17 ).mono ?_
  rintro e' w18 ⟨gn, rfl, hA19⟩
  refine ⟨_, rfl, fun a hF => hK _ _ (fun _ => ?_) ?_⟩
  · exact Hp.qp [[row gn 107 (leafC i)], [row gs 102 [.int .i64 32, .slice A 257 c, .func (.func 82) #[] #[.pointer (some ⟨wb, 0, none⟩)]]], [row wb 3 [.int .i64 32]], X, [row b10 45 [.pointer none, .slice none 0 0]], [row b7 25 (.int .i64 i.ct :: dc i.ch)], [row b4 23 (dc i.k)], [row b1 45 [.pointer none, .slice none 0 0]]] R [1, 2, 3, 4, 5, 6, 7] hA19
  clear hK K
  replace hA19 : Hp w0 ([row gn 107 (leafC i)] :: [row gs 102 [.int .i64 32, .slice A 257 c, .func (.func 82) #[] #[.pointer (some ⟨wb, 0, none⟩)]]] :: [row wb 3 [.int .i64 32]] :: X :: [row b10 45 [.pointer none, .slice none 0 0]] :: [row b7 25 (.int .i64 i.ct :: dc i.ch)] :: [row b4 23 (dc i.k)] :: [row b1 45 [.pointer none, .slice none 0 0]] :: R) w18 := hA19
  refine vp_y hF rfl rfl rfl rfl (by decide) _ (fun x hx => y_build (qs := #[(0, .pointer (some ⟨gn, 0, none⟩)), (1, .slice A 257 c)]) rfl rfl (rx_build2 _ _ _)) (fun a hF => ?_)
  refine vp_l rfl rfl rfl (fun K hK => hs_storeAll (new := [.pointer (some ⟨gn, 0, none⟩), .slice A 257 c]) hF rfl rfl hA19 rfl rfl 4 rfl rfl (by simp [Value.oneCell']) sz45_s9 (fun w20 hA21 => hK _ _ (fun h => absurd h (by decide)) ?_))
  clear hK K
  replace hA21 : Hp w0 ([row gn 107 (leafC i)] :: [row gs 102 [.int .i64 32, .slice A 257 c, .func (.func 82) #[] #[.pointer (some ⟨wb, 0, none⟩)]]] :: [row wb 3 [.int .i64 32]] :: X :: [row b10 45 [.pointer (some ⟨gn, 0, none⟩), .slice A 257 c]] :: [row b7 25 (.int .i64 i.ct :: dc i.ch)] :: [row b4 23 (dc i.k)] :: [row b1 45 [.pointer none, .slice none 0 0]] :: R) w20 := hA21
  refine vp_ly hF rfl rfl rfl rfl (by decide) _ (y_assign rfl rfl) (fun h => absurd h (by decide)) (fun a hF => ?_)
  refine plan_end ?_
  refine hK5 _ _ ?_; clear  hK5 K5
  apply wp_ret
  refine vc_retCT hF Tryd.results22 hA21.q rfl rfl 4 rfl rw45_s9 ?_
  have hA22 : Hp w0 ([row gn 107 (leafC i)] :: X :: R) w20 := Hp.sel [[row gn 107 (leafC i)], [row gs 102 [.int .i64 32, .slice A 257 c, .func (.func 82) #[] #[.pointer (some ⟨wb, 0, none⟩)]]], [row wb 3 [.int .i64 32]], X, [row b10 45 [.pointer (some ⟨gn, 0, none⟩), .slice A 257 c]], [row b7 25 (.int .i64 i.ct :: dc i.ch)], [row b4 23 (dc i.k)], [row b1 45 [.pointer none, .slice none 0 0]]] R [0, 3] [1, 2, 4, 5, 6, 7] hA21 rfl
  exact ⟨gn, A, c, X, rfl, hRc, hA22⟩

set_option maxRecDepth 100000 in
set_option maxHeartbeats 2000000 in
theorem rx_root0 (w0 w : World) (R : List Seg) (hT : Tab w0) (hA : Hp w0 R w) : Calls Tryd.prog 18 #[.agg ([.pointer none, .slice none 0 0] : List Value).toArray, .int .i64 32] w fun e w' => e = .returned (.agg (dc (emptyL 32 256)).toArray) ∧ Hp w0 R w' := by
  refine vc_enter Tryd.func18 rfl Tryd.ntmps18 (Nat.le_of_ble_eq_true rfl) (fun a hF => ?_)
  apply wp_seq_k; intro K1 hK1
  refine wp_region_lit ?_
  refine vc_op rfl (fun K hK => hs_box (cs := [.pointer none, .slice none 0 0]) hF rfl (by decide) rfl hA rfl (fun b1 w2 a hb1 hF hA3 => hK _ _ ?_))
  clear hK K
  replace hA3 : Hp w0 ([row b1 45 [.pointer none, .slice none 0 0]] :: R) w2 := hA3
  refine vc_op rfl (fun K hK => hs_alloc hF rfl (by decide) rfl hA3 (zr23_s9) (fun b4 w5 a hb4 hF hA6 => hK _ _ ?_))
  clear hK K
  replace hA6 : Hp w0 ([row b4 23 (dc (List.replicate 32 0))] :: [row b1 45 [.pointer none, .slice none 0 0]] :: R) w5 := hA6
  refine vc_nil ?_
  refine hK1 _ _ ?_; clear  hK1 K1
  apply wp_seq_k; intro K2 hK2
  refine wp_region_lit ?_
  refine vc_y hF rfl rfl (by decide) _ (y_move rfl rfl) (fun a hF => ?_)
  refine vc_y hF rfl rfl (by decide) _ (y_field rfl Tryd.underlying45 rfl sz26_s9 (by decide) rfl (rfl : (⟨_, 0 + _, none⟩ : Addr) = ⟨_, 1, none⟩)) (fun a hF => ?_)
  refine vc_y hF rfl rfl (by decide) _ (y_ld rfl hA6.q rfl 1 rfl rfl nr26_s9) (fun a hF => ?_)
  refine vc_op rfl (fun K hK => ws_call hF rfl (by decide) cl54_s9 rfl rfl ?_)
  with_reducible refine (rx_at0 w0 _ ([row b4 23 (dc (List.replicate 32 0))] :: [row b1 45 [.pointer none, .slice none 0 0]] :: R) 32 32 (by decide) hT hA6 ).mono ?_
  rintro e' w7 ⟨gs, wb, A, c, X, rfl, hRc, hA8⟩
  refine ⟨_, rfl, fun a hF => hK _ _ ?_⟩
  clear hK K
  replace hA8 : Hp w0 ([row gs 102 [.int .i64 32, .slice A 257 c, .func (.func 82) #[] #[.pointer (some ⟨wb, 0, none⟩)]]] :: [row wb 3 [.int .i64 32]] :: X :: [row b4 23 (dc (List.replicate 32 0))] :: [row b1 45 [.pointer none, .slice none 0 0]] :: R) w7 := hA8
  refine vc_y hF rfl rfl (by decide) _ (y_assign rfl rfl) (fun a hF => ?_)
  refine vc_nil ?_
  refine hK2 _ _ ?_; clear  hK2 K2
  apply wp_seq_k; intro K3 hK3
  apply wp_seq_k; intro K4 hK4
  refine wp_region_lit ?_
  refine vc_y hF rfl rfl (by decide) _ (y_field rfl Tryd.underlying45 rfl sz43_s9 (by decide) rfl (rfl : (⟨_, 0 + _, none⟩ : Addr) = ⟨_, 0, none⟩)) (fun a hF => ?_)
  refine vc_y hF rfl rfl (by decide) _ (y_ld rfl hA8.q rfl 4 rfl rfl nr43_s9) (fun a hF => ?_)
  refine vc_y hF rfl rfl (by decide) _ (y_eqNilT rfl (by kernel_rfl) rfl rfl) (fun a hF => ?_)
  refine vc_nil ?_
  refine hK4 _ _ ?_; clear  hK4 K4
  refine vc_true hF rfl ?_
  have hdle := emptyL_length 32
  obtain ⟨herd, hele⟩ := digs_rd (emptyL 32) 257 256 (fun i _ => hdle i) (by decide)
  obtain ⟨be_, qe, hAE, hce⟩ := hRc.ne (i := 256 * 32) (by omega)
  have hdl : (dc (emptyL 32 256)).length = 32 := by rw [dc_length, hdle]
  apply wp_seq_k; intro K5 hK5
  refine wp_region_lit ?_
  refine vc_y hF rfl rfl (by decide) _ (y_move rfl rfl) (fun a hF => ?_)
  refine vc_y hF rfl rfl (by decide) _ (y_nilCheck rfl rfl) (fun a hF => ?_)
  refine vc_y hF rfl rfl (by decide) _ (y_field rfl Tryd.underlying102 rfl sz26_s9 (by decide) rfl (rfl : (⟨_, 0 + _, none⟩ : Addr) = ⟨_, 1, none⟩)) (fun a hF => ?_)
  refine vc_y hF rfl rfl (by decide) _ (y_ld rfl hA8.q rfl 0 rfl rfl nr26_s9) (fun a hF => ?_)
  refine vc_y hF rfl rfl (by decide) _ (y_ixSl rfl Tryd.underlying26 sz23_s9 (by exact congrArg (fun A => some (Value.slice A 257 c)) hAE) rfl 256 rfl (by decide) rfl) (fun a hF => ?_)
  refine vc_y hF rfl rfl (by decide) _ (y_ldRowC rfl (Hq.sub hA8.q (sub1 (List.mem_cons_of_mem _ (List.mem_cons_of_mem _ ((List.mem_cons_self ..)))))) rfl hce (256 * 32) hele rfl herd rw23_s9) (fun a hF => ?_)
  refine vc_op rfl (fun K hK => hs_storeAll (new := dc (emptyL 32 256)) hF rfl rfl hA8 rfl rfl 3 rfl (by rw [hdl]; rfl) (dc_one _) sz23_s9 (fun w9 hA10 => hK _ _ ?_))
  clear hK K
  replace hA10 : Hp w0 ([row gs 102 [.int .i64 32, .slice A 257 c, .func (.func 82) #[] #[.pointer (some ⟨wb, 0, none⟩)]]] :: [row wb 3 [.int .i64 32]] :: X :: [row b4 23 (dc (emptyL 32 256))] :: [row b1 45 [.pointer none, .slice none 0 0]] :: R) w9 := hA10
  refine vc_nil ?_
  refine hK5 _ _ ?_; clear  hK5 K5
  apply wp_ret
  simp only [Exit.then]
  refine vc_retR hF Tryd.results18 hA10.q rfl 3 rfl (by rw [hdl]; exact rw23_s9) ?_
  have hA11 : Hp w0 (R) w9 := Hp.sel [[row gs 102 [.int .i64 32, .slice A 257 c, .func (.func 82) #[] #[.pointer (some ⟨wb, 0, none⟩)]]], [row wb 3 [.int .i64 32]], X, [row b4 23 (dc (emptyL 32 256))], [row b1 45 [.pointer none, .slice none 0 0]]] R [] [0, 1, 2, 3, 4] hA10 rfl
  exact ⟨rfl, hA11⟩

set_option maxRecDepth 100000 in
set_option maxHeartbeats 2000000 in
theorem rx_root1 (w0 w : World) (R G : List Seg) (hG : G ⊆ R) (i : Itm) (hi : i.OK) (gn : Nat) (hN : Rw w0 G gn (leafC i)) (ad : Addr) (c : Nat) (hRc : Rc w0 G (some ad) (digs (emptyL 32) 257)) (hT : Tab w0) (hA : Hp w0 R w) : Calls Tryd.prog 18 #[.agg ([.pointer (some ⟨gn, 0, none⟩), .slice (some ad) 257 c] : List Value).toArray, .int .i64 32] w fun e w' => e = .returned (.agg (dc (liftD 32 i.k (entryD 32 i) 0 256)).toArray) ∧ Hp w0 R w' := by
  refine vc_enter Tryd.func18 rfl Tryd.ntmps18 (Nat.le_of_ble_eq_true rfl) (fun a hF => ?_)
  apply wp_seq_k; intro K1 hK1
  refine wp_region_lit ?_
  refine vc_op rfl (fun K hK => hs_box (cs := [.pointer (some ⟨gn, 0, none⟩), .slice (some ad) 257 c]) hF rfl (by decide) rfl hA rfl (fun b1 w2 a hb1 hF hA3 => hK _ _ ?_))
  clear hK K
  replace hA3 : Hp w0 ([row b1 45 [.pointer (some ⟨gn, 0, none⟩), .slice (some ad) 257 c]] :: R) w2 := hA3
  refine vc_op rfl (fun K hK => hs_alloc hF rfl (by decide) rfl hA3 (zr23_s9) (fun b4 w5 a hb4 hF hA6 => hK _ _ ?_))
  clear hK K
  replace hA6 : Hp w0 ([row b4 23 (dc (List.replicate 32 0))] :: [row b1 45 [.pointer (some ⟨gn, 0, none⟩), .slice (some ad) 257 c]] :: R) w5 := hA6
  refine vc_nil ?_
  refine hK1 _ _ ?_; clear  hK1 K1
  apply wp_seq_k; intro K2 hK2
  refine wp_region_lit ?_
  refine vc_y hF rfl rfl (by decide) _ (y_move rfl rfl) (fun a hF => ?_)
  refine vc_y hF rfl rfl (by decide) _ (y_field rfl Tryd.underlying45 rfl sz26_s9 (by decide) rfl (rfl : (⟨_, 0 + _, none⟩ : Addr) = ⟨_, 1, none⟩)) (fun a hF => ?_)
  refine vc_y hF rfl rfl (by decide) _ (y_ld rfl hA6.q rfl 1 rfl rfl nr26_s9) (fun a hF => ?_)
  refine vc_op rfl (fun K hK => ws_call hF rfl (by decide) cl54_s9 rfl rfl ?_)
  with_reducible refine (rx_at1 w0 _ ([row b4 23 (dc (List.replicate 32 0))] :: [row b1 45 [.pointer (some ⟨gn, 0, none⟩), .slice (some ad) 257 c]] :: R) ad c hA6 ).mono ?_
  rintro e' w7 ⟨gs, wb, rfl, hA8⟩
  refine ⟨_, rfl, fun a hF => hK _ _ ?_⟩
  clear hK K
  replace hA8 : Hp w0 ([row gs 102 [.int .i64 32, .slice (some ad) 257 c, .func (.func 82) #[] #[.pointer (some ⟨wb, 0, none⟩)]]] :: [row wb 3 [.int .i64 32]] :: [row b4 23 (dc (List.replicate 32 0))] :: [row b1 45 [.pointer (some ⟨gn, 0, none⟩), .slice (some ad) 257 c]] :: R) w7 := hA8
  refine vc_y hF rfl rfl (by decide) _ (y_assign rfl rfl) (fun a hF => ?_)
  refine vc_nil ?_
  refine hK2 _ _ ?_; clear  hK2 K2
  apply wp_seq_k; intro K3 hK3
  apply wp_seq_k; intro K4 hK4
  refine wp_region_lit ?_
  refine vc_y hF rfl rfl (by decide) _ (y_field rfl Tryd.underlying45 rfl sz43_s9 (by decide) rfl (rfl : (⟨_, 0 + _, none⟩ : Addr) = ⟨_, 0, none⟩)) (fun a hF => ?_)
  refine vc_y hF rfl rfl (by decide) _ (y_ld rfl hA8.q rfl 3 rfl rfl nr43_s9) (fun a hF => ?_)
  refine vc_y hF rfl rfl (by decide) _ (y_eqNil rfl (by kernel_rfl) rfl rfl) (fun a hF => ?_)
  refine vc_nil ?_
  refine hK4 _ _ ?_; clear  hK4 K4
  refine vc_false hF rfl ?_
  have hdl : (dc (liftD 32 i.k (entryD 32 i) 0 256)).length = 32 := by rw [dc_length, liftD_length (entryD_length _ _)]
  apply wp_skip
  refine hK3 _ _ ?_; clear  hK3 K3
  apply wp_seq_k; intro K5 hK5
  refine wp_region_lit ?_
  refine vc_y hF rfl rfl (by decide) _ (y_move rfl rfl) (fun a hF => ?_)
  refine vc_y hF rfl rfl (by decide) _ (y_field rfl Tryd.underlying45 rfl sz43_s9 (by decide) rfl (rfl : (⟨_, 0 + _, none⟩ : Addr) = ⟨_, 0, none⟩)) (fun a hF => ?_)
  refine vc_y hF rfl rfl (by decide) _ (y_ld rfl hA8.q rfl 3 rfl rfl nr43_s9) (fun a hF => ?_)
  have hSm : Sm w0 ([row gs 102 [.int .i64 32, .slice (some ad) 257 c, .func (.func 82) #[] #[.pointer (some ⟨wb, 0, none⟩)]]] :: [row wb 3 [.int .i64 32]] :: [row b4 23 (dc (List.replicate 32 0))] :: [row b1 45 [.pointer (some ⟨gn, 0, none⟩), .slice (some ad) 257 c]] :: R) 82 gs 32 := ⟨some ad, c, wb, Rw.ofRow (i := 0) rfl, Rw.ofRow (i := 1) rfl, hRc.mono (List.Subset.trans hG (subC (subC (subC (subC (sub0))))))⟩
  refine vc_op rfl (fun K hK => ws_call hF rfl (by decide) cl55_s9 rfl rfl ?_)
  with_reducible refine (rx_lift w0 _ ([row gs 102 [.int .i64 32, .slice (some ad) 257 c, .func (.func 82) #[] #[.pointer (some ⟨wb, 0, none⟩)]]] :: [row wb 3 [.int .i64 32]] :: [row b4 23 (dc (List.replicate 32 0))] :: [row b1 45 [.pointer (some ⟨gn, 0, none⟩), .slice (some ad) 257 c]] :: R) _ sub0 i hi gn (hN.mono (List.Subset.trans hG (subC (subC (subC (subC (sub0))))))) gs 32 hSm hT hA8 ).mono ?_
  rintro e' w9 ⟨rfl, hA10⟩
  refine ⟨_, rfl, fun a hF => hK _ _ ?_⟩
  clear hK K
  replace hA10 : Hp w0 ([row gs 102 [.int .i64 32, .slice (some ad) 257 c, .func (.func 82) #[] #[.pointer (some ⟨wb, 0, none⟩)]]] :: [row wb 3 [.int .i64 32]] :: [row b4 23 (dc (List.replicate 32 0))] :: [row b1 45 [.pointer (some ⟨gn, 0, none⟩), .slice (some ad) 257 c]] :: R) w9 := hA10
  refine vc_op rfl (fun K hK => hs_storeAll (new := dc (liftD 32 i.k (entryD 32 i) 0 256)) hF rfl rfl hA10 rfl rfl 2 rfl (by rw [hdl]; rfl) (dc_one _) sz23_s9 (fun w11 hA12 => hK _ _ ?_))
  clear hK K
  replace hA12 : Hp w0 ([row gs 102 [.int .i64 32, .slice (some ad) 257 c, .func (.func 82) #[] #[.pointer (some ⟨wb, 0, none⟩)]]] :: [row wb 3 [.int .i64 32]] :: [row b4 23 (dc (liftD 32 i.k (entryD 32 i) 0 256))] :: [row b1 45 [.pointer (some ⟨gn, 0, none⟩), .slice (some ad) 257 c]] :: R) w11 := hA12
  refine vc_nil ?_
  refine hK5 _ _ ?_; clear  hK5 K5
  apply wp_ret
  refine vc_retR hF Tryd.results18 hA12.q rfl 2 rfl (by rw [hdl]; exact rw23_s9) ?_
  have hA13 : Hp w0 (R) w11 := Hp.sel [[row gs 102 [.int .i64 32, .slice (some ad) 257 c, .func (.func 82) #[] #[.pointer (some ⟨wb, 0, none⟩)]]], [row wb 3 [.int .i64 32]], [row b4 23 (dc (liftD 32 i.k (entryD 32 i) 0 256))], [row b1 45 [.pointer (some ⟨gn, 0, none⟩), .slice (some ad) 257 c]]] R [] [0, 1, 2, 3] hA12 rfl
  exact ⟨rfl, hA13⟩

set_option maxRecDepth 100000 in
set_option maxHeartbeats 2000000 in
theorem rx_len0 (w0 w : World) (R : List Seg) (hA : Hp w0 R w) : Calls Tryd.prog 20 #[.agg ([.pointer none, .slice none 0 0] : List Value).toArray] w fun e w' => e = .returned (.int .i64 0) ∧ Hp w0 R w' := by
  refine vc_enter Tryd.func20 rfl Tryd.ntmps20 (Nat.le_of_ble_eq_true rfl) (fun a hF => ?_)
  apply wp_seq_k; intro K1 hK1
  refine wp_region_lit ?_
  refine vc_op rfl (fun K hK => hs_box (cs := [.pointer none, .slice none 0 0]) hF rfl (by decide) rfl hA rfl (fun b1 w2 a hb1 hF hA3 => hK _ _ ?_))
  clear hK K
  replace hA3 : Hp w0 ([row b1 45 [.pointer none, .slice none 0 0]] :: R) w2 := hA3
  refine vc_y hF rfl rfl (by decide) _ (y_assign rfl rfl) (fun a hF => ?_)
  refine vc_nil ?_
  refine hK1 _ _ ?_; clear  hK1 K1
  apply wp_seq_k; intro K2 hK2
  apply wp_seq_k; intro K3 hK3
  refine wp_region_lit ?_
  refine vc_y hF rfl rfl (by decide) _ (y_field rfl Tryd.underlying45 rfl sz43_s9 (by decide) rfl (rfl : (⟨_, 0 + _, none⟩ : Addr) = ⟨_, 0, none⟩)) (fun a hF => ?_)
  refine vc_y hF rfl rfl (by decide) _ (y_ld rfl hA3.q rfl 0 rfl rfl nr43_s9) (fun a hF => ?_)
  refine vc_y hF rfl rfl (by decide) _ (y_eqNilT rfl (by kernel_rfl) rfl rfl) (fun a hF => ?_)
  refine vc_nil ?_
  refine hK3 _ _ ?_; clear  hK3 K3
  refine vc_true hF rfl ?_
  apply wp_seq_k; intro K4 hK4
  refine wp_region_lit ?_
  refine vc_y hF rfl rfl (by decide) _ (y_assign rfl rfl) (fun a hF => ?_)
  refine vc_nil ?_
  refine hK4 _ _ ?_; clear  hK4 K4
  apply wp_ret
  simp only [Exit.then]
  refine vc_ret1 hF Tryd.results20 rfl ?_
  have hA4 : Hp w0 (R) w2 := Hp.sel [[row b1 45 [.pointer none, .slice none 0 0]]] R [] [0] hA3 rfl
  exact ⟨rfl, hA4⟩

set_option maxRecDepth 100000 in
set_option maxHeartbeats 2000000 in
theorem rx_len1 (w0 w : World) (R G : List Seg) (hG : G ⊆ R) (i : Itm) (hi : i.OK) (gn : Nat) (hN : Rw w0 G gn (leafC i)) (sv : Value) (hA : Hp w0 R w) : Calls Tryd.prog 20 #[.agg ([.pointer (some ⟨gn, 0, none⟩), sv] : List Value).toArray] w fun e w' => e = .returned (.int .i64 1) ∧ Hp w0 R w' := by
  refine vc_enter Tryd.func20 rfl Tryd.ntmps20 (Nat.le_of_ble_eq_true rfl) (fun a hF => ?_)
  apply wp_seq_k; intro K1 hK1
  refine wp_region_lit ?_
  refine vc_op rfl (fun K hK => hs_box (cs := [.pointer (some ⟨gn, 0, none⟩), sv]) hF rfl (by decide) rfl hA rfl (fun b1 w2 a hb1 hF hA3 => hK _ _ ?_))
  clear hK K
  replace hA3 : Hp w0 ([row b1 45 [.pointer (some ⟨gn, 0, none⟩), sv]] :: R) w2 := hA3
  refine vc_y hF rfl rfl (by decide) _ (y_assign rfl rfl) (fun a hF => ?_)
  refine vc_nil ?_
  refine hK1 _ _ ?_; clear  hK1 K1
  apply wp_seq_k; intro K2 hK2
  apply wp_seq_k; intro K3 hK3
  refine wp_region_lit ?_
  refine vc_y hF rfl rfl (by decide) _ (y_field rfl Tryd.underlying45 rfl sz43_s9 (by decide) rfl (rfl : (⟨_, 0 + _, none⟩ : Addr) = ⟨_, 0, none⟩)) (fun a hF => ?_)
  refine vc_y hF rfl rfl (by decide) _ (y_ld rfl hA3.q rfl 0 rfl rfl nr43_s9) (fun a hF => ?_)
  refine vc_y hF rfl rfl (by decide) _ (y_eqNil rfl (by kernel_rfl) rfl rfl) (fun a hF => ?_)
  refine vc_nil ?_
  refine hK3 _ _ ?_; clear  hK3 K3
  refine vc_false hF rfl ?_
  apply wp_skip
  refine hK2 _ _ ?_; clear  hK2 K2
  apply wp_seq_k; intro K4 hK4
  refine wp_region_lit ?_
  refine vc_y hF rfl rfl (by decide) _ (y_field rfl Tryd.underlying45 rfl sz43_s9 (by decide) rfl (rfl : (⟨_, 0 + _, none⟩ : Addr) = ⟨_, 0, none⟩)) (fun a hF => ?_)
  refine vc_y hF rfl rfl (by decide) _ (y_ld rfl hA3.q rfl 0 rfl rfl nr43_s9) (fun a hF => ?_)
  refine vc_y hF rfl rfl (by decide) _ (y_nilCheck rfl rfl) (fun a hF => ?_)
  refine vc_y hF rfl rfl (by decide) _ (y_field rfl Tryd.underlying107 rfl sz3_s9 (by decide) rfl (rfl : (⟨_, 0 + _, none⟩ : Addr) = ⟨_, 65, none⟩)) (fun a hF => ?_)
  refine vc_y hF rfl rfl (by decide) _ (y_ldC rfl (Hq.sub hA3.q (List.Subset.trans hG (subC (sub0)))) rfl hN 65 (by rw [leafC_len hi]; decide) rfl (leafC_size hi) nr3_s9) (fun a hF => ?_)
  refine vc_y hF rfl rfl (by decide) _ (y_assign rfl rfl) (fun a hF => ?_)
  refine vc_nil ?_
  refine hK4 _ _ ?_; clear  hK4 K4
  apply wp_ret
  refine vc_ret1 hF Tryd.results20 rfl ?_
  have hA4 : Hp w0 (R) w2 := Hp.sel [[row b1 45 [.pointer (some ⟨gn, 0, none⟩), sv]]] R [] [0] hA3 rfl
  exact ⟨rfl, hA4⟩
end Go.Proofs.YtpomngkcfbnjoaaDoor
