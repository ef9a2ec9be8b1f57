/- The law SparseWalks walked. -/
import Derived.Test.YtpomngkcfbnjoaaDoorSpO
import Derived.Test.YtpomngkcfbnjoaaDoorSp4
import Derived.Test.YtpomngkcfbnjoaaDoorProg
import Derived.Test.YtpomngkcfbnjoaaDoorHr
import Derived.Test.YtpomngkcfbnjoaaDoorBook0
import Derived.Test.YtpomngkcfbnjoaaDoorSpL
import Derived.Test.YtpomngkcfbnjoaaDoorTab4
import Derived.Test.YtpomngkcfbnjoaaDoorCs
namespace Go.Proofs.YtpomngkcfbnjoaaDoor
open Go.RowKit Go.Dk

def i9 : Itm := ⟨9 :: List.replicate 31 0, 1, List.replicate 32 0⟩
def i5 : Itm := ⟨5 :: List.replicate 31 0, 2, List.replicate 32 0⟩
theorem i9_ok : i9.OK := ⟨rfl, rfl⟩
theorem i5_ok : i5.OK := ⟨rfl, rfl⟩
theorem i95_bld : bldS [] [i9, i5] = (0, [i5, i9]) := by kernel_rfl
set_option maxRecDepth 100000 in
theorem lw_d9 (w : World) : (Instr.build 23 #[(0, .int .u8 9)]).run Tryd.prog w = .ok (.agg (dc i9.k).toArray) w := by kernel_rfl
set_option maxRecDepth 100000 in
theorem lw_d5 (w : World) : (Instr.build 23 #[(0, .int .u8 5)]).run Tryd.prog w = .ok (.agg (dc i5.k).toArray) w := by kernel_rfl
set_option maxRecDepth 100000 in
theorem lw_e9 (w : World) : (Instr.build 25 #[(0, .int .i64 1)]).run Tryd.prog w = .ok (.agg i9.ent.toArray) w := by kernel_rfl
set_option maxRecDepth 100000 in
theorem lw_e5 (w : World) : (Instr.build 25 #[(0, .int .i64 2)]).run Tryd.prog w = .ok (.agg i5.ent.toArray) w := by kernel_rfl
set_option maxRecDepth 100000 in
theorem lw_two (w : World) : (Instr.buildSlice 55 2 #[(0, .agg i9.cells.toArray), (1, .agg i5.cells.toArray)]).run Tryd.prog w = .ok (.slice (some ⟨w.heap.size, 0, none⟩) 2 2) (w.alloc (.cells (cel Itm.cells [i9, i5]).toArray 54)) := by kernel_rfl
theorem lw_z (w : World) : (Instr.build 23 #[]).run Tryd.prog w = .ok (.agg (dc (List.replicate 32 0)).toArray) w := by kernel_rfl
theorem tv_one18 {w0 : World} {G : List Seg} {L : List Itm} {top sl : Value} (h : TV w0 G L top sl) : ∀ v ∈ ([top, sl] : List Value), v.oneCell' = true := fun v hv => by
  simp only [List.mem_cons, List.not_mem_nil, or_false] at hv
  rcases hv with rfl | rfl
  · exact h.one.1
  · exact h.one.2
theorem itmC_key {i : Itm} (hi : i.OK) : (i.cells.drop 0).take 32 = dc i.k := by
  unfold Itm.cells
  rw [List.drop_zero, List.take_left' (by rw [dc_length, hi.k])]
theorem itmC_ent {i : Itm} (hi : i.OK) : (i.cells.drop 32).take 33 = .int .i64 i.ct :: dc i.ch := by
  unfold Itm.cells
  rw [List.drop_left' (by rw [dc_length, hi.k])]
  exact List.take_of_length_le (by unfold Itm.ent; rw [List.length_cons, dc_length, hi.ch]; decide)
theorem itmC_le {i : Itm} (hi : i.OK) (n m : Nat) (h : n + m ≤ 65) : n + m ≤ i.cells.length := by rw [Itm.len hi]; exact h
theorem getL_mem {L : List Itm} (hr : Ris L) {i : Itm} (hi : i ∈ L) : getL L i.k = some i := by
  induction L with
  | nil => cases hi
  | cons j L ih =>
    obtain ⟨h1, h2⟩ := List.pairwise_cons.1 hr
    by_cases hk : j.k = i.k
    · rcases List.mem_cons.1 hi with rfl | hi
      · exact getL_here rfl
      · have := h1 i hi; rw [hk] at this; omega
    · rw [getL_cons hk]
      rcases List.mem_cons.1 hi with rfl | hi
      · exact absurd rfl hk
      · exact ih h2 hi
theorem ris_apart {p q r : List Itm} {x y : Itm} (h : Ris (p ++ x :: (q ++ y :: r))) : nb x.k < nb y.k := by
  have h1 := (List.pairwise_append.1 h).2.1
  exact (List.pairwise_cons.1 h1).1 y (List.mem_append_right _ (List.mem_cons_self ..))
/-- the key that came last -/
def LastK (pre : List Itm) (wk : List UInt8) : Prop := wk.length = 32 ∧ (pre ≠ [] → ∃ p x, pre = p ++ [x] ∧ wk = x.k)
theorem LastK.start : LastK [] (List.replicate 32 0) := ⟨rfl, fun h => absurd rfl h⟩
theorem LastK.next {pre : List Itm} {i : Itm} (hi : i.OK) : LastK (pre ++ [i]) i.k := ⟨hi.k, fun _ => ⟨pre, i, rfl, rfl⟩⟩
theorem LastK.rises {pre post L : List Itm} {i : Itm} {wk : List UInt8} (h : LastK pre wk) (hn : pre ≠ []) (hL : pre ++ i :: post = L) (hr : Ris L) : nb wk < nb i.k := by
  obtain ⟨p, x, rfl, rfl⟩ := h.2 hn
  refine ris_apart (p := p) (q := []) (r := post) ?_
  rw [← hL, List.append_assoc] at hr
  exact hr
theorem first_apart {pre post L post2 : List Itm} {i j : Itm} (hn : pre ≠ []) (hL : pre ++ i :: post = L) (hL2 : j :: post2 = L) (hr : Ris L) : j.k ≠ i.k := fun e => by
  cases pre with
  | nil => exact hn rfl
  | cons x pre =>
    rw [← hL] at hL2 hr
    have e2 : j = x := by injection hL2
    subst e2
    have := ris_apart (p := []) (q := pre) (r := post) hr
    rw [e] at this
    omega
theorem nr3_s18 : notRow Tryd.prog 3 = true := by kernel_rfl
theorem nr4_s18 : notRow Tryd.prog 4 = true := by kernel_rfl
theorem nr70_s18 : notRow Tryd.prog 70 = true := by kernel_rfl
theorem rw23_s18 : isRow Tryd.prog 23 32 = true := by kernel_rfl
theorem rw25_s18 : isRow Tryd.prog 25 33 = true := by kernel_rfl
theorem rw45_s18 : isRow Tryd.prog 45 2 = true := by kernel_rfl
theorem sz3_s18 : (Tryd.prog.info? 3).map (·.size) = some 1 := by kernel_rfl
theorem sz4_s18 : (Tryd.prog.info? 4).map (·.size) = some 1 := by kernel_rfl
theorem sz5_s18 : (Tryd.prog.info? 5).map (·.size) = some 1 := by kernel_rfl
theorem sz23_s18 : (Tryd.prog.info? 23).map (·.size) = some 32 := by kernel_rfl
theorem sz25_s18 : (Tryd.prog.info? 25).map (·.size) = some 33 := by kernel_rfl
theorem sz45_s18 : (Tryd.prog.info? 45).map (·.size) = some 2 := by kernel_rfl
theorem sz54_s18 : (Tryd.prog.info? 54).map (·.size) = some 65 := by kernel_rfl
theorem sz70_s18 : (Tryd.prog.info? 70).map (·.size) = some 1 := by kernel_rfl
theorem cl20_s18 : CallsTo Tryd.prog 20 := ⟨_, Tryd.func20, by kernel_rfl, by kernel_rfl⟩
theorem cl30_s18 : CallsTo Tryd.prog 30 := ⟨_, Tryd.func30, by kernel_rfl, by kernel_rfl⟩
theorem cl31_s18 : CallsTo Tryd.prog 31 := ⟨_, Tryd.func31, by kernel_rfl, by kernel_rfl⟩
theorem cl32_s18 : CallsTo Tryd.prog 32 := ⟨_, Tryd.func32, by kernel_rfl, by kernel_rfl⟩
theorem cl33_s18 : CallsTo Tryd.prog 33 := ⟨_, Tryd.func33, by kernel_rfl, by kernel_rfl⟩
theorem cl34_s18 : CallsTo Tryd.prog 34 := ⟨_, Tryd.func34, by kernel_rfl, by kernel_rfl⟩
theorem cl35_s18 : CallsTo Tryd.prog 35 := ⟨_, Tryd.func35, by kernel_rfl, by kernel_rfl⟩
theorem cl36_s18 : CallsTo Tryd.prog 36 := ⟨_, Tryd.func36, by kernel_rfl, by kernel_rfl⟩
theorem cl66_s18 : CallsTo Tryd.prog 66 := ⟨_, Tryd.func66, by kernel_rfl, by kernel_rfl⟩

theorem zr3_s18 : zeroIs Tryd.prog 3 (.int .i64 0) := by unfold zeroIs; kernel_rfl
theorem zr4_s18 : zeroIs Tryd.prog 4 (.bool false) := by unfold zeroIs; kernel_rfl
theorem zr23_s18 : zeroIs Tryd.prog 23 (.agg (dc (List.replicate 32 0)).toArray) := by unfold zeroIs; kernel_rfl
theorem zr25_s18 : zeroIs Tryd.prog 25 (.agg ([.int .i64 0, .int .u8 0, .int .u8 0, .int .u8 0, .int .u8 0, .int .u8 0, .int .u8 0, .int .u8 0, .int .u8 0, .int .u8 0, .int .u8 0, .int .u8 0, .int .u8 0, .int .u8 0, .int .u8 0, .int .u8 0, .int .u8 0, .int .u8 0, .int .u8 0, .int .u8 0, .int .u8 0, .int .u8 0, .int .u8 0, .int .u8 0, .int .u8 0, .int .u8 0, .int .u8 0, .int .u8 0, .int .u8 0, .int .u8 0, .int .u8 0, .int .u8 0, .int .u8 0] : List Value).toArray) := by unfold zeroIs; kernel_rfl
theorem zr45_s18 : zeroIs Tryd.prog 45 (.agg ([.pointer none, .slice none 0 0] : List Value).toArray) := by unfold zeroIs; kernel_rfl
theorem zr54_s18 : zeroIs Tryd.prog 54 (.agg ([.int .u8 0, .int .u8 0, .int .u8 0, .int .u8 0, .int .u8 0, .int .u8 0, .int .u8 0, .int .u8 0, .int .u8 0, .int .u8 0, .int .u8 0, .int .u8 0, .int .u8 0, .int .u8 0, .int .u8 0, .int .u8 0, .int .u8 0, .int .u8 0, .int .u8 0, .int .u8 0, .int .u8 0, .int .u8 0, .int .u8 0, .int .u8 0, .int .u8 0, .int .u8 0, .int .u8 0, .int .u8 0, .int .u8 0, .int .u8 0, .int .u8 0, .int .u8 0, .int .i64 0, .int .u8 0, .int .u8 0, .int .u8 0, .int .u8 0, .int .u8 0, .int .u8 0, .int .u8 0, .int .u8 0, .int .u8 0, .int .u8 0, .int .u8 0, .int .u8 0, .int .u8 0, .int .u8 0, .int .u8 0, .int .u8 0, .int .u8 0, .int .u8 0, .int .u8 0, .int .u8 0, .int .u8 0, .int .u8 0, .int .u8 0, .int .u8 0, .int .u8 0, .int .u8 0, .int .u8 0, .int .u8 0, .int .u8 0, .int .u8 0, .int .u8 0, .int .u8 0] : List Value).toArray) := by unfold zeroIs; kernel_rfl
theorem zr70_s18 : zeroIs Tryd.prog 70 (.nilFunc) := by unfold zeroIs; kernel_rfl

set_option maxRecDepth 100000 in
set_option maxHeartbeats 2000000 in
theorem law_walks (w0 : World) (A : Option Addr) (l : List Itm) (n c : Nat) (cut : Int) (hT : Tab w0) (hln : l.length = n) (hlc : n ≤ c) (hI : ∀ i ∈ l, i.OK) (hL : Rc w0 [] A (cel Itm.cells l)) : Calls Tryd.prog 6 #[.slice A n c, .int .i64 cut] w0 fun e w' => e = .returned (.bool true) ∧ At w0 [] w' := by
  have hA : Hp w0 [] w0 := Hp.start w0
  obtain ⟨l0, hl0⟩ : ∃ l0, l0 = l.take 24 := ⟨_, rfl⟩
  have hN : min n 24 = l0.length := by rw [hl0, List.length_take, hln]; omega
  have hI0 : ∀ i ∈ l0, i.OK := fun i hi => hI i (by rw [hl0] at hi; exact List.mem_of_mem_take hi)
  have hN2 : l0.length ≤ c ∧ l0.length ≤ 24 := by omega
  have hL0 : Rc w0 [] A (cel Itm.cells l0) := by rw [hl0]; exact rs_take 24 hI hL
  clear hl0
  have hI95 : ∀ i ∈ [i9, i5], i.OK := fun i hi => by
    simp only [List.mem_cons, List.not_mem_nil, or_false] at hi
    rcases hi with rfl | rfl
    · exact i9_ok
    · exact i5_ok
  refine vq_enter Tryd.func6 rfl Tryd.ntmps6 (Nat.le_of_ble_eq_true rfl) (fun a hF => ?_)
  apply wq_seq_k; intro K1 hK1
  refine wq_region_lit (fun ⟨_, _, (h : _ ∧ _)⟩ => nomatch h.1) rfl ?_
  refine vc_op rfl (fun K hK => hs_box1 hF rfl (by decide) rfl hA rfl rfl (fun b1 w2 a hb1 hF hA3 => hK _ _ ?_))
  clear hK K
  replace hA3 : Hp w0 ([row b1 3 [.int .i64 cut]] :: []) w2 := hA3
  refine vc_op rfl (fun K hK => hs_alloc1 hF rfl (by decide) rfl hA3 (zr4_s18) rfl (fun b4 w5 a hb4 hF hA6 => hK _ _ ?_))
  clear hK K
  replace hA6 : Hp w0 ([row b4 4 [.bool false]] :: [row b1 3 [.int .i64 cut]] :: []) w5 := hA6
  refine vc_nil ?_
  refine hK1 _ _ ?_; clear  hK1 K1
  apply wq_seq_k; intro K2 hK2
  refine wq_region_lit (fun ⟨_, _, (h : _ ∧ _)⟩ => nomatch h.1) rfl ?_
  refine vc_y hF rfl rfl (by decide) _ (y_build (qs := #[(0, .int .u8 9)]) rfl rfl (by exact lw_d9)) (fun a hF => ?_)
  refine vc_y hF rfl rfl (by decide) _ (y_build (qs := #[(0, .int .i64 1)]) rfl rfl (by exact lw_e9)) (fun a hF => ?_)
  refine vc_y hF rfl rfl (by decide) _ (y_build (qs := #[(0, .agg (dc i9.k).toArray), (1, .agg i9.ent.toArray)]) rfl rfl (by exact rg_build i9_ok)) (fun a hF => ?_)
  refine vc_y hF rfl rfl (by decide) _ (y_build (qs := #[(0, .int .u8 5)]) rfl rfl (by exact lw_d5)) (fun a hF => ?_)
  refine vc_y hF rfl rfl (by decide) _ (y_build (qs := #[(0, .int .i64 2)]) rfl rfl (by exact lw_e5)) (fun a hF => ?_)
  refine vc_y hF rfl rfl (by decide) _ (y_build (qs := #[(0, .agg (dc i5.k).toArray), (1, .agg i5.ent.toArray)]) rfl rfl (by exact rg_build i5_ok)) (fun a hF => ?_)
  refine vc_op rfl (fun K hK => hs_bs (qs := #[(0, .agg i9.cells.toArray), (1, .agg i5.cells.toArray)]) (cells := (cel Itm.cells [i9, i5]).toArray) hF rfl (by decide) rfl hA6 rfl (by exact lw_two) (fun b7 w8 a hb7 hF hA9 => hK _ _ ?_))
  clear hK K
  replace hA9 : Hp w0 ([row b7 54 (cel Itm.cells [i9, i5])] :: [row b4 4 [.bool false]] :: [row b1 3 [.int .i64 cut]] :: []) w8 := hA9
  refine vc_op rfl (fun K hK => ws_call hF rfl (by decide) cl30_s18 rfl rfl ?_)
  with_reducible refine ((show Calls Tryd.prog 30 #[.slice (some ⟨b7, 0, none⟩) 2 2] _ _ from rt_build w0 _ ([row b7 54 (cel Itm.cells [i9, i5])] :: [row b4 4 [.bool false]] :: [row b1 3 [.int .i64 cut]] :: []) [[row b7 54 (cel Itm.cells [i9, i5])]] (sub1 ((List.mem_cons_self ..))) [] (some ⟨b7, 0, none⟩) [i9, i5] 2 (by decide) (by decide) hI95 (Rc.ofRow (i := 0) (off := 0) rfl (by rw [List.drop_zero]; exact List.take_length ..)) hT hA9) ).mono ?_
  rintro e' w10 ⟨top1, sl1, X1, rfl, hTV1, hA11⟩
  refine ⟨_, rfl, fun a hF => hK _ _ ?_⟩
  clear hK K
  replace hA11 : Hp w0 (X1 :: [row b7 54 (cel Itm.cells [i9, i5])] :: [row b4 4 [.bool false]] :: [row b1 3 [.int .i64 cut]] :: []) w10 := hA11
  rw [i95_bld] at hTV1 hF
  simp only at hTV1 hF
  have tv1 := tv_one18 hTV1
  refine vc_y hF rfl rfl (by decide) _ (y_move rfl rfl) (fun a hF => ?_)
  refine vc_y hF rfl rfl (by decide) _ (y_extract (v := .agg ([top1, sl1]).toArray) rfl rfl rfl) (fun a hF => ?_)
  refine vc_y hF rfl rfl (by decide) _ (y_extract (v := .int .i64 0) rfl rfl rfl) (fun a hF => ?_)
  refine vc_op rfl (fun K hK => hs_alloc hF rfl (by decide) rfl hA11 (zr45_s18) (fun b12 w13 a hb12 hF hA14 => hK _ _ ?_))
  clear hK K
  replace hA14 : Hp w0 ([row b12 45 [.pointer none, .slice none 0 0]] :: X1 :: [row b7 54 (cel Itm.cells [i9, i5])] :: [row b4 4 [.bool false]] :: [row b1 3 [.int .i64 cut]] :: []) w13 := hA14
  refine vc_op rfl (fun K hK => hs_storeAll (new := [top1, sl1]) hF rfl rfl hA14 rfl rfl 0 rfl rfl tv1 sz45_s18 (fun w15 hA16 => hK _ _ ?_))
  clear hK K
  replace hA16 : Hp w0 ([row b12 45 [top1, sl1]] :: X1 :: [row b7 54 (cel Itm.cells [i9, i5])] :: [row b4 4 [.bool false]] :: [row b1 3 [.int .i64 cut]] :: []) w15 := hA16
  refine vc_y hF rfl rfl (by decide) _ (y_assign rfl rfl) (fun a hF => ?_)
  refine vc_nil ?_
  refine hK2 _ _ ?_; clear  hK2 K2
  apply wq_seq_k; intro K3 hK3
  refine wq_region_lit (fun ⟨_, _, (h : _ ∧ _)⟩ => nomatch h.1) rfl ?_
  refine vc_y hF rfl rfl (by decide) _ (y_ldRow (new := [top1, sl1]) rfl hA16.q rfl 0 rfl rw45_s18 (Nat.le_of_ble_eq_true rfl) rfl) (fun a hF => ?_)
  refine vc_op rfl (fun K hK => ws_call hF rfl (by decide) cl31_s18 rfl rfl ?_)
  with_reducible refine ((show Calls Tryd.prog 31 #[.agg ([top1, sl1] : List Value).toArray, .int .i64 3] _ _ from rt_listed w0 _ ([row b12 45 [top1, sl1]] :: X1 :: [row b7 54 (cel Itm.cells [i9, i5])] :: [row b4 4 [.bool false]] :: [row b1 3 [.int .i64 cut]] :: []) [X1] (sub1 (List.mem_cons_of_mem _ ((List.mem_cons_self ..)))) [i5, i9] top1 sl1 hTV1 3 (by decide) (by decide) hA16) ).mono ?_
  rintro e' w17 ⟨vl, V1, rfl, hV1, hA18⟩
  refine ⟨_, rfl, fun a hF => hK _ _ ?_⟩
  clear hK K
  replace hA18 : Hp w0 (V1 :: [row b12 45 [top1, sl1]] :: X1 :: [row b7 54 (cel Itm.cells [i9, i5])] :: [row b4 4 [.bool false]] :: [row b1 3 [.int .i64 cut]] :: []) w17 := hA18
  have hFn := hF
  obtain ⟨A1, cv, rfl, hcv, hRV⟩ := hV1.rc (w0 := w0) (R := [V1]) (List.mem_cons_self ..)
  have hF := hFn
  rw [show ([i5, i9] : List Itm).length = 2 from rfl] at hF
  refine vc_y hF rfl rfl (by decide) _ (y_assign rfl rfl) (fun a hF => ?_)
  refine vc_nil ?_
  refine hK3 _ _ ?_; clear  hK3 K3
  apply wq_seq_k; intro K4 hK4
  apply wq_seq_k; intro K5 hK5
  obtain ⟨ba, qa, hA1e, hca⟩ := hRV.ne (i := 0) (by decide)
  refine wq_region_lit (fun ⟨_, _, (h : _ ∧ _)⟩ => nomatch h.1) rfl ?_
  refine vc_y hF rfl rfl (by decide) _ (y_move rfl rfl) (fun a hF => ?_)
  refine vc_y hF rfl rfl (by decide) _ (y_cmp rfl rfl rfl rfl (neq_f (by omega))) (fun a hF => ?_)
  refine vc_y hF rfl rfl (by decide) _ (y_move rfl rfl) (fun a hF => ?_)
  refine vc_yg hF rfl rfl rfl rfl rfl (by decide) _ (y_move rfl rfl) (fun a hF => ?_)
  refine vc_yg hF rfl rfl rfl rfl rfl (by decide) _ (y_lenSl rfl Tryd.underlying55 rfl rfl) (fun a hF => ?_)
  refine vc_yg hF rfl rfl rfl rfl rfl (by decide) _ (y_cmp rfl rfl rfl rfl (neq_f (by omega))) (fun a hF => ?_)
  refine vc_y hF rfl rfl (by decide) _ (y_pick rfl rfl rfl) (fun a hF => ?_)
  refine vc_y hF rfl rfl (by decide) _ (y_move rfl rfl) (fun a hF => ?_)
  refine vc_yg hF rfl rfl rfl rfl rfl (by decide) _ (y_move rfl rfl) (fun a hF => ?_)
  refine vc_yg hF rfl rfl rfl rfl rfl (by decide) _ (y_ixSl rfl Tryd.underlying55 sz54_s18 (by exact congrArg (fun A => some (Value.slice A 2 cv)) hA1e) rfl 0 rfl (by decide) (rfl : (⟨_, _ + 0 * 65, none⟩ : Addr) = ⟨ba, qa + 0, none⟩)) (fun a hF => ?_)
  refine vc_yg hF rfl rfl rfl rfl rfl (by decide) _ (y_field rfl Tryd.underlying54 rfl sz25_s18 (by decide) rfl (rfl : (⟨_, _ + _, none⟩ : Addr) = ⟨ba, qa + 0 + 32, none⟩)) (fun a hF => ?_)
  refine vc_yg hF rfl rfl rfl rfl rfl (by decide) _ (y_field rfl Tryd.underlying25 rfl sz3_s18 (by decide) rfl (rfl : (⟨_, _ + _, none⟩ : Addr) = ⟨ba, qa + 0 + 32 + 0, none⟩)) (fun a hF => ?_)
  refine vc_yg hF rfl rfl rfl rfl rfl (by decide) _ (y_ldC (u := .int .i64 2) rfl (Hq.sub hA18.q (sub1 ((List.mem_cons_self ..)))) rfl hca 32 (by decide) (by omega) (by rfl) nr3_s18) (fun a hF => ?_)
  refine vc_yg hF rfl rfl rfl rfl rfl (by decide) _ (y_cmp rfl rfl rfl rfl (neq_f (by omega))) (fun a hF => ?_)
  refine vc_y hF rfl rfl (by decide) _ (y_pick rfl rfl rfl) (fun a hF => ?_)
  refine vc_y hF rfl rfl (by decide) _ (y_move rfl rfl) (fun a hF => ?_)
  refine vc_yg hF rfl rfl rfl rfl rfl (by decide) _ (y_move rfl rfl) (fun a hF => ?_)
  refine vc_yg hF rfl rfl rfl rfl rfl (by decide) _ (y_ixSl rfl Tryd.underlying55 sz54_s18 (by exact congrArg (fun A => some (Value.slice A 2 cv)) hA1e) rfl 1 rfl (by decide) (rfl : (⟨_, _ + 1 * 65, none⟩ : Addr) = ⟨ba, qa + 65, none⟩)) (fun a hF => ?_)
  refine vc_yg hF rfl rfl rfl rfl rfl (by decide) _ (y_field rfl Tryd.underlying54 rfl sz23_s18 (by decide) rfl (rfl : (⟨_, _ + _, none⟩ : Addr) = ⟨ba, qa + 65 + 0, none⟩)) (fun a hF => ?_)
  refine vc_yg hF rfl rfl rfl rfl rfl (by decide) _ (y_ldRowC rfl (Hq.sub hA18.q (sub1 ((List.mem_cons_self ..)))) rfl hca 65 (by decide) (by omega) (by rfl) rw23_s18) (fun a hF => ?_)
  refine vc_yg hF rfl rfl rfl rfl rfl (by decide) _ (y_build (qs := #[(0, .int .u8 9)]) rfl rfl (by exact lw_d9)) (fun a hF => ?_)
  refine vc_yg hF rfl rfl rfl rfl rfl (by decide) _ (y_neB (c := false) (X := i9.k) (Y := i9.k) rfl Tryd.underlying23 Tryd.underlying5 sz5_s18 (by kernel_rfl) rfl rfl rfl rfl (by simp)) (fun a hF => ?_)
  refine vc_y hF rfl rfl (by decide) _ (y_pick rfl rfl rfl) (fun a hF => ?_)
  refine vc_nil ?_
  refine hK5 _ _ ?_; clear  hK5 K5
  refine wq_false hF rfl ?_
  apply wpIn_skip
  refine hK4 _ _ ?_; clear  hK4 K4
  apply wq_seq_k; intro K6 hK6
  refine wq_region_lit (fun ⟨_, _, (h : _ ∧ _)⟩ => nomatch h.1) rfl ?_
  refine vc_y hF rfl rfl (by decide) _ (y_move rfl rfl) (fun a hF => ?_)
  refine vc_op rfl (fun K hK => ws_call hF rfl (by decide) cl32_s18 rfl rfl ?_)
  with_reducible refine ((show Calls Tryd.prog 32 #[.slice A n c, .int .i64 24] _ _ from rr_fewI w0 _ (V1 :: [row b12 45 [top1, sl1]] :: X1 :: [row b7 54 (cel Itm.cells [i9, i5])] :: [row b4 4 [.bool false]] :: [row b1 3 [.int .i64 cut]] :: []) A n 24 c (by omega) hA18) ).mono ?_
  rintro e' w19 ⟨rfl, hA20⟩
  refine ⟨_, rfl, fun a hF => hK _ _ ?_⟩
  clear hK K
  replace hA20 : Hp w0 (V1 :: [row b12 45 [top1, sl1]] :: X1 :: [row b7 54 (cel Itm.cells [i9, i5])] :: [row b4 4 [.bool false]] :: [row b1 3 [.int .i64 cut]] :: []) w19 := hA20
  rw [hN] at hF
  refine vc_op rfl (fun K hK => ws_call hF rfl (by decide) cl30_s18 rfl rfl ?_)
  with_reducible refine (rt_build w0 _ (V1 :: [row b12 45 [top1, sl1]] :: X1 :: [row b7 54 (cel Itm.cells [i9, i5])] :: [row b4 4 [.bool false]] :: [row b1 3 [.int .i64 cut]] :: []) [] (List.nil_subset _) [] A l0 c hN2.1 (by omega) hI0 hL0 hT hA20 ).mono ?_
  rintro e' w21 ⟨top, sl, X, rfl, hTV, hA22⟩
  refine ⟨_, rfl, fun a hF => hK _ _ ?_⟩
  clear hK K
  replace hA22 : Hp w0 (X :: V1 :: [row b12 45 [top1, sl1]] :: X1 :: [row b7 54 (cel Itm.cells [i9, i5])] :: [row b4 4 [.bool false]] :: [row b1 3 [.int .i64 cut]] :: []) w21 := hA22
  have tv2 := tv_one18 hTV
  refine vc_y hF rfl rfl (by decide) _ (y_move rfl rfl) (fun a hF => ?_)
  refine vc_y hF rfl rfl (by decide) _ (y_extract (v := .agg ([top, sl]).toArray) rfl rfl rfl) (fun a hF => ?_)
  refine vc_y hF rfl rfl (by decide) _ (y_extract (v := .int .i64 (((bldS [] l0).1 : Nat) : Int)) rfl rfl rfl) (fun a hF => ?_)
  refine vc_op rfl (fun K hK => hs_alloc hF rfl (by decide) rfl hA22 (zr45_s18) (fun b23 w24 a hb23 hF hA25 => hK _ _ ?_))
  clear hK K
  replace hA25 : Hp w0 ([row b23 45 [.pointer none, .slice none 0 0]] :: X :: V1 :: [row b12 45 [top1, sl1]] :: X1 :: [row b7 54 (cel Itm.cells [i9, i5])] :: [row b4 4 [.bool false]] :: [row b1 3 [.int .i64 cut]] :: []) w24 := hA25
  refine vc_op rfl (fun K hK => hs_storeAll (new := [top, sl]) hF rfl rfl hA25 rfl rfl 0 rfl rfl tv2 sz45_s18 (fun w26 hA27 => hK _ _ ?_))
  clear hK K
  replace hA27 : Hp w0 ([row b23 45 [top, sl]] :: X :: V1 :: [row b12 45 [top1, sl1]] :: X1 :: [row b7 54 (cel Itm.cells [i9, i5])] :: [row b4 4 [.bool false]] :: [row b1 3 [.int .i64 cut]] :: []) w26 := hA27
  refine vc_y hF rfl rfl (by decide) _ (y_assign rfl rfl) (fun a hF => ?_)
  refine vc_nil ?_
  refine hK6 _ _ ?_; clear  hK6 K6
  apply wq_seq_k; intro K7 hK7
  apply wq_seq_k; intro K8 hK8
  by_cases h0 : (bldS [] l0).1 = 0
  · obtain ⟨hs1, hs2⟩ := bldS_spec (acc := []) (l := l0) List.Pairwise.nil (fun i hi => by cases hi) hI0
    obtain ⟨hris, _⟩ := hs2 h0
    have hlen := bld_length hI0 h0
    obtain ⟨L, hLe⟩ : ∃ L, L = (bldS [] l0).2 := ⟨_, rfl⟩
    rw [← hLe] at hTV hris hlen
    have hLok := hTV.ok
    have hLn : L.length ≤ 24 := by omega
    refine wq_region_lit (fun ⟨_, _, (h : _ ∧ _)⟩ => nomatch h.1) rfl ?_
    refine vc_y hF rfl rfl (by decide) _ (y_move rfl rfl) (fun a hF => ?_)
    refine vc_y hF rfl rfl (by decide) _ (y_cmp rfl rfl rfl rfl (neq_f (by omega))) (fun a hF => ?_)
    refine vc_nil ?_
    refine hK8 _ _ ?_; clear  hK8 K8
    refine wq_false hF rfl ?_
    apply wpIn_skip
    refine hK7 _ _ ?_; clear  hK7 K7
    apply wq_seq_k; intro K9 hK9
    refine wq_region_lit (fun ⟨_, _, (h : _ ∧ _)⟩ => nomatch h.1) rfl ?_
    refine vc_y hF rfl rfl (by decide) _ (y_ldRow (new := [top, sl]) rfl hA27.q rfl 0 rfl rw45_s18 (Nat.le_of_ble_eq_true rfl) rfl) (fun a hF => ?_)
    refine vc_op rfl (fun K hK => ws_call hF rfl (by decide) cl33_s18 rfl rfl ?_)
    with_reducible refine (rt_items w0 _ ([row b23 45 [top, sl]] :: X :: V1 :: [row b12 45 [top1, sl1]] :: X1 :: [row b7 54 (cel Itm.cells [i9, i5])] :: [row b4 4 [.bool false]] :: [row b1 3 [.int .i64 cut]] :: []) top sl hA27 ).mono ?_
    rintro e' w28 ⟨tb, rfl, hA29⟩
    refine ⟨_, rfl, fun a hF => hK _ _ ?_⟩
    clear hK K
    replace hA29 : Hp w0 ([row tb 45 [top, sl]] :: [row b23 45 [top, sl]] :: X :: V1 :: [row b12 45 [top1, sl1]] :: X1 :: [row b7 54 (cel Itm.cells [i9, i5])] :: [row b4 4 [.bool false]] :: [row b1 3 [.int .i64 cut]] :: []) w28 := hA29
    refine vc_op rfl (fun K hK => hs_alloc1 hF rfl (by decide) rfl hA29 (zr70_s18) rfl (fun b30 w31 a hb30 hF hA32 => hK _ _ ?_))
    clear hK K
    replace hA32 : Hp w0 ([row b30 70 [.nilFunc]] :: [row tb 45 [top, sl]] :: [row b23 45 [top, sl]] :: X :: V1 :: [row b12 45 [top1, sl1]] :: X1 :: [row b7 54 (cel Itm.cells [i9, i5])] :: [row b4 4 [.bool false]] :: [row b1 3 [.int .i64 cut]] :: []) w31 := hA32
    refine vc_op rfl (fun K hK => hs_store1 hF rfl rfl hA32 rfl rfl 0 rfl (by simp) rfl sz70_s18 (fun w33 hA34 => hK _ _ ?_))
    clear hK K
    replace hA34 : Hp w0 ([row b30 70 [.func (.func 66) #[] #[.pointer (some ⟨tb, 0, none⟩)]]] :: [row tb 45 [top, sl]] :: [row b23 45 [top, sl]] :: X :: V1 :: [row b12 45 [top1, sl1]] :: X1 :: [row b7 54 (cel Itm.cells [i9, i5])] :: [row b4 4 [.bool false]] :: [row b1 3 [.int .i64 cut]] :: []) w33 := hA34
    refine vc_nil ?_
    refine hK9 _ _ ?_; clear  hK9 K9
    apply wq_seq_k; intro K10 hK10
    apply wq_seq_k; intro K11 hK11
    refine wq_region_lit (fun ⟨_, _, (h : _ ∧ _)⟩ => nomatch h.1) rfl ?_
    refine vc_y hF rfl rfl (by decide) _ (y_ld rfl hA34.q rfl 0 rfl rfl nr70_s18) (fun a hF => ?_)
    refine vc_y hF rfl rfl (by decide) _ (y_binR (r := .bool false) rfl rfl rfl (fun w => by kernel_rfl)) (fun a hF => ?_)
    refine vc_nil ?_
    refine hK11 _ _ ?_; clear  hK11 K11
    refine wq_false hF rfl ?_
    apply wpIn_skip
    refine hK10 _ _ ?_; clear  hK10 K10
    apply wq_seq_k; intro K12 hK12
    refine wq_region_lit (fun ⟨_, _, (h : _ ∧ _)⟩ => nomatch h.1) rfl ?_
    refine vc_op rfl (fun K hK => hs_alloc1 hF rfl (by decide) rfl hA34 (zr3_s18) rfl (fun b35 w36 a hb35 hF hA37 => hK _ _ ?_))
    clear hK K
    replace hA37 : Hp w0 ([row b35 3 [.int .i64 0]] :: [row b30 70 [.func (.func 66) #[] #[.pointer (some ⟨tb, 0, none⟩)]]] :: [row tb 45 [top, sl]] :: [row b23 45 [top, sl]] :: X :: V1 :: [row b12 45 [top1, sl1]] :: X1 :: [row b7 54 (cel Itm.cells [i9, i5])] :: [row b4 4 [.bool false]] :: [row b1 3 [.int .i64 cut]] :: []) w36 := hA37
    refine vc_op rfl (fun K hK => hs_store1 hF rfl rfl hA37 rfl rfl 0 rfl (by simp) rfl sz3_s18 (fun w38 hA39 => hK _ _ ?_))
    clear hK K
    replace hA39 : Hp w0 ([row b35 3 [.int .i64 0]] :: [row b30 70 [.func (.func 66) #[] #[.pointer (some ⟨tb, 0, none⟩)]]] :: [row tb 45 [top, sl]] :: [row b23 45 [top, sl]] :: X :: V1 :: [row b12 45 [top1, sl1]] :: X1 :: [row b7 54 (cel Itm.cells [i9, i5])] :: [row b4 4 [.bool false]] :: [row b1 3 [.int .i64 cut]] :: []) w38 := hA39
    refine vc_nil ?_
    refine hK12 _ _ ?_; clear  hK12 K12
    apply wq_seq_k; intro K13 hK13
    refine wq_region_lit (fun ⟨_, _, (h : _ ∧ _)⟩ => nomatch h.1) rfl ?_
    refine vc_y hF rfl rfl (by decide) _ (y_build0 rfl (by exact lw_z)) (fun a hF => ?_)
    refine vc_op rfl (fun K hK => hs_alloc hF rfl (by decide) rfl hA39 (zr23_s18) (fun b40 w41 a hb40 hF hA42 => hK _ _ ?_))
    clear hK K
    replace hA42 : Hp w0 ([row b40 23 (dc (List.replicate 32 0))] :: [row b35 3 [.int .i64 0]] :: [row b30 70 [.func (.func 66) #[] #[.pointer (some ⟨tb, 0, none⟩)]]] :: [row tb 45 [top, sl]] :: [row b23 45 [top, sl]] :: X :: V1 :: [row b12 45 [top1, sl1]] :: X1 :: [row b7 54 (cel Itm.cells [i9, i5])] :: [row b4 4 [.bool false]] :: [row b1 3 [.int .i64 cut]] :: []) w41 := hA42
    refine vc_op rfl (fun K hK => hs_storeAll (new := dc (List.replicate 32 0)) hF rfl rfl hA42 rfl rfl 0 rfl rfl (dc_one _) sz23_s18 (fun w43 hA44 => hK _ _ ?_))
    clear hK K
    replace hA44 : Hp w0 ([row b40 23 (dc (List.replicate 32 0))] :: [row b35 3 [.int .i64 0]] :: [row b30 70 [.func (.func 66) #[] #[.pointer (some ⟨tb, 0, none⟩)]]] :: [row tb 45 [top, sl]] :: [row b23 45 [top, sl]] :: X :: V1 :: [row b12 45 [top1, sl1]] :: X1 :: [row b7 54 (cel Itm.cells [i9, i5])] :: [row b4 4 [.bool false]] :: [row b1 3 [.int .i64 cut]] :: []) w43 := hA44
    refine vc_nil ?_
    refine hK13 _ _ ?_; clear  hK13 K13
    apply wq_seq_k; intro K14 hK14
    apply wq_seq_k; intro K15 hK15
    refine wq_region_lit (fun ⟨_, _, (h : _ ∧ _)⟩ => nomatch h.1) rfl ?_
    refine vc_y hF rfl rfl (by decide) _ (y_ld rfl hA44.q rfl 2 rfl rfl nr70_s18) (fun a hF => ?_)
    refine vc_nil ?_
    refine hK15 _ _ ?_; clear  hK15 K15
    apply wpIn_block
    have hA45 : Hp w0 ([row b35 3 [.int .i64 0]] :: [row b40 23 (dc (List.replicate 32 0))] :: [row b4 4 [.bool false]] :: [row b30 70 [.func (.func 66) #[] #[.pointer (some ⟨tb, 0, none⟩)]]] :: [row b1 3 [.int .i64 cut]] :: [row tb 45 [top, sl]] :: [row b23 45 [top, sl]] :: X :: []) w43 := Hp.sel [[row b40 23 (dc (List.replicate 32 0))], [row b35 3 [.int .i64 0]], [row b30 70 [.func (.func 66) #[] #[.pointer (some ⟨tb, 0, none⟩)]]], [row tb 45 [top, sl]], [row b23 45 [top, sl]], X, V1, [row b12 45 [top1, sl1]], X1, [row b7 54 (cel Itm.cells [i9, i5])], [row b4 4 [.bool false]], [row b1 3 [.int .i64 cut]]] [] [1, 0, 10, 2, 11, 3, 4, 5] [6, 7, 8, 9] hA44 rfl
    obtain ⟨G, hG⟩ : ∃ G, G = [row b30 70 [.func (.func 66) #[] #[.pointer (some ⟨tb, 0, none⟩)]]] :: [row b1 3 [.int .i64 cut]] :: [row tb 45 [top, sl]] :: [row b23 45 [top, sl]] :: X :: [] := ⟨_, rfl⟩
    have hSQ : Rw w0 G b30 [.func (.func 66) #[] #[.pointer (some ⟨tb, 0, none⟩)]] := Rw.ofMem (by rw [hG]; exact (List.mem_cons_self ..)) (List.mem_cons_self ..)
    have hCT : Rw w0 G b1 [.int .i64 cut] := Rw.ofMem (by rw [hG]; exact List.mem_cons_of_mem _ ((List.mem_cons_self ..))) (List.mem_cons_self ..)
    have hTB : Rw w0 G tb [top, sl] := Rw.ofMem (by rw [hG]; exact List.mem_cons_of_mem _ (List.mem_cons_of_mem _ ((List.mem_cons_self ..)))) (List.mem_cons_self ..)
    have hT8 : Rw w0 G b23 [top, sl] := Rw.ofMem (by rw [hG]; exact List.mem_cons_of_mem _ (List.mem_cons_of_mem _ (List.mem_cons_of_mem _ ((List.mem_cons_self ..))))) (List.mem_cons_self ..)
    have hTVG : TV w0 G L top sl := hTV.mono (fun x hx => by rw [List.mem_singleton.1 hx]; exact by rw [hG]; exact List.mem_cons_of_mem _ (List.mem_cons_of_mem _ (List.mem_cons_of_mem _ (List.mem_cons_of_mem _ ((List.mem_cons_self ..))))))
    refine wq_range hF rfl cl66_s18 hA45 (fun d l rc w1 hrc hA1 => ?_)
    have hA2 : Hp w0 (([(l, rc .ready none)] :: [row b35 3 [.int .i64 0]] :: [row b40 23 (dc (List.replicate 32 0))] :: []) ++ ([row b4 4 [.bool false]] :: [(d, .deferred (some []))] :: G)) w1 := by
      rw [hG]
      exact Hp.ord [[(l, rc .ready none)], [(d, .deferred (some []))], [row b35 3 [.int .i64 0]], [row b40 23 (dc (List.replicate 32 0))], [row b4 4 [.bool false]]] _ [0, 2, 3, 4, 1] hA1 rfl
    have hGR : G ⊆ ([row b4 4 [.bool false]] :: [(d, .deferred (some []))] :: G) := List.subset_cons_of_subset _ (List.subset_cons_of_subset _ (List.Subset.refl _))
    refine (rt_items1 (JS := fun pre S => ∃ wk, LastK pre wk ∧ S = [(l, rc .ready none)] :: [row b35 3 [.int .i64 (pre.length : Int)]] :: [row b40 23 (dc wk)] :: []) (JX := fun _ => False) (G := G) hTVG ?_ ([row b4 4 [.bool false]] :: [(d, .deferred (some []))] :: G) _ hGR hTB ⟨_, LastK.start, rfl⟩ hA2).mono ?_
    · rintro pre i post hL hi w R S hG3 ⟨wk, hwk, rfl⟩ hA
      have him : i ∈ L := by rw [← hL]; exact List.mem_append_right _ (List.mem_cons_self ..)
      have hgl := getL_mem hris him
      have hpl : pre.length < L.length := by have := congrArg List.length hL; rw [List.length_append, List.length_cons] at this; omega
      clear hA1 hA2
      refine hs_round hrc hF (p := 70) (by decide) hA (fun a hF => ?_)
      refine wq_region_lit (fun ⟨_, _, h⟩ => h) rfl ?_
      refine vc_op rfl (fun K hK => hs_alloc hF rfl (by decide) rfl hA (zr54_s18) (fun b46 w47 a hb46 hF hA48 => hK _ _ ?_))
      clear hK K
      replace hA48 : Hp w0 ([row b46 54 [.int .u8 0, .int .u8 0, .int .u8 0, .int .u8 0, .int .u8 0, .int .u8 0, .int .u8 0, .int .u8 0, .int .u8 0, .int .u8 0, .int .u8 0, .int .u8 0, .int .u8 0, .int .u8 0, .int .u8 0, .int .u8 0, .int .u8 0, .int .u8 0, .int .u8 0, .int .u8 0, .int .u8 0, .int .u8 0, .int .u8 0, .int .u8 0, .int .u8 0, .int .u8 0, .int .u8 0, .int .u8 0, .int .u8 0, .int .u8 0, .int .u8 0, .int .u8 0, .int .i64 0, .int .u8 0, .int .u8 0, .int .u8 0, .int .u8 0, .int .u8 0, .int .u8 0, .int .u8 0, .int .u8 0, .int .u8 0, .int .u8 0, .int .u8 0, .int .u8 0, .int .u8 0, .int .u8 0, .int .u8 0, .int .u8 0, .int .u8 0, .int .u8 0, .int .u8 0, .int .u8 0, .int .u8 0, .int .u8 0, .int .u8 0, .int .u8 0, .int .u8 0, .int .u8 0, .int .u8 0, .int .u8 0, .int .u8 0, .int .u8 0, .int .u8 0, .int .u8 0]] :: [(l, rc .ready none)] :: [row b35 3 [.int .i64 ((pre.length : Nat) : Int)]] :: [row b40 23 (dc wk)] :: R) w47 := hA48
      refine vc_op rfl (fun K hK => hs_storeAll (new := i.cells) hF rfl rfl hA48 rfl rfl 0 rfl (by rw [Itm.len hi]; rfl) (Itm.one i) sz54_s18 (fun w49 hA50 => hK _ _ ?_))
      clear hK K
      replace hA50 : Hp w0 ([row b46 54 i.cells] :: [(l, rc .ready none)] :: [row b35 3 [.int .i64 ((pre.length : Nat) : Int)]] :: [row b40 23 (dc wk)] :: R) w49 := hA50
      refine vc_nil ?_
      have hA51 : Hp w0 ([(l, rc .ready none)] :: [row b46 54 i.cells] :: [row b35 3 [.int .i64 ((pre.length : Nat) : Int)]] :: [row b40 23 (dc wk)] :: R) w49 := Hp.ord [[row b46 54 i.cells], [(l, rc .ready none)], [row b35 3 [.int .i64 ((pre.length : Nat) : Int)]], [row b40 23 (dc wk)]] R [1, 0, 2, 3] hA50 rfl
      refine ⟨[row b46 54 i.cells] :: [row b35 3 [.int .i64 ((pre.length : Nat) : Int)]] :: [row b40 23 (dc wk)] :: R, hA51, fun w52 hA53 => ?_⟩
      replace hA53 : Hp w0 ([(l, rc .busy none)] :: [row b46 54 i.cells] :: [row b35 3 [.int .i64 ((pre.length : Nat) : Int)]] :: [row b40 23 (dc wk)] :: R) w52 := hA53
      have hwl := hwk.1
      apply wpIn_block
      apply wq_seq_k; intro K16 hK16
      refine wq_region_lit (fun ⟨_, _, h⟩ => h) rfl ?_
      refine vc_y hF rfl rfl (by decide) _ (y_ldRowC (new := [top, sl]) rfl (Hq.sub hA53.q (List.Subset.trans hG3 (subC (subC (subC (subC (sub0))))))) rfl hT8 0 (by simp) rfl rfl rw45_s18) (fun a hF => ?_)
      refine vc_y hF rfl rfl (by decide) _ (y_field rfl Tryd.underlying54 rfl sz23_s18 (by decide) rfl (rfl : (⟨_, 0 + _, none⟩ : Addr) = ⟨_, 0, none⟩)) (fun a hF => ?_)
      refine vc_y hF rfl rfl (by decide) _ (y_ldRow rfl hA53.q rfl 1 rfl rw23_s18 (itmC_le hi _ _ (by decide)) (itmC_key hi)) (fun a hF => ?_)
      refine vc_op rfl (fun K hK => ws_call hF rfl (by decide) cl34_s18 rfl rfl ?_)
      with_reducible refine (rt_get w0 _ ([(l, rc .busy none)] :: [row b46 54 i.cells] :: [row b35 3 [.int .i64 ((pre.length : Nat) : Int)]] :: [row b40 23 (dc wk)] :: R) G (List.Subset.trans hG3 (subC (subC (subC (subC (sub0)))))) L top sl hTVG i.k hi.k hA53 ).mono ?_
      rintro e' w54 ⟨rfl, hA55⟩
      refine ⟨_, rfl, fun a hF => hK _ _ ?_⟩
      clear hK K
      replace hA55 : Hp w0 ([(l, rc .busy none)] :: [row b46 54 i.cells] :: [row b35 3 [.int .i64 ((pre.length : Nat) : Int)]] :: [row b40 23 (dc wk)] :: R) w54 := hA55
      rw [getCt_some hgl, getCh_some hgl, show (getL L i.k).isSome = true from by rw [hgl]; rfl] at hF
      refine vc_y hF rfl rfl (by decide) _ (y_move rfl rfl) (fun a hF => ?_)
      refine vc_y hF rfl rfl (by decide) _ (y_extract (v := .agg (.int .i64 i.ct :: dc i.ch).toArray) rfl rfl rfl) (fun a hF => ?_)
      refine vc_y hF rfl rfl (by decide) _ (y_extract (v := .bool true) rfl rfl rfl) (fun a hF => ?_)
      refine vc_op rfl (fun K hK => hs_alloc hF rfl (by decide) rfl hA55 (zr25_s18) (fun b56 w57 a hb56 hF hA58 => hK _ _ ?_))
      clear hK K
      replace hA58 : Hp w0 ([row b56 25 [.int .i64 0, .int .u8 0, .int .u8 0, .int .u8 0, .int .u8 0, .int .u8 0, .int .u8 0, .int .u8 0, .int .u8 0, .int .u8 0, .int .u8 0, .int .u8 0, .int .u8 0, .int .u8 0, .int .u8 0, .int .u8 0, .int .u8 0, .int .u8 0, .int .u8 0, .int .u8 0, .int .u8 0, .int .u8 0, .int .u8 0, .int .u8 0, .int .u8 0, .int .u8 0, .int .u8 0, .int .u8 0, .int .u8 0, .int .u8 0, .int .u8 0, .int .u8 0, .int .u8 0]] :: [(l, rc .busy none)] :: [row b46 54 i.cells] :: [row b35 3 [.int .i64 ((pre.length : Nat) : Int)]] :: [row b40 23 (dc wk)] :: R) w57 := hA58
      refine vc_op rfl (fun K hK => hs_storeAll (new := .int .i64 i.ct :: dc i.ch) hF rfl rfl hA58 rfl rfl 0 rfl (by rw [List.length_cons, dc_length, hi.ch]; rfl) (ent_one _ _) sz25_s18 (fun w59 hA60 => hK _ _ ?_))
      clear hK K
      replace hA60 : Hp w0 ([row b56 25 (.int .i64 i.ct :: dc i.ch)] :: [(l, rc .busy none)] :: [row b46 54 i.cells] :: [row b35 3 [.int .i64 ((pre.length : Nat) : Int)]] :: [row b40 23 (dc wk)] :: R) w59 := hA60
      refine vc_y hF rfl rfl (by decide) _ (y_assign rfl rfl) (fun a hF => ?_)
      refine vc_nil ?_
      refine hK16 _ _ ?_; clear  hK16 K16
      apply wq_seq_k; intro K17 hK17
      apply wq_seq_k; intro K18 hK18
      by_cases hpn : pre ≠ []
      · have hpp : 0 < pre.length := List.length_pos_iff.2 hpn
        have hrs := hwk.rises hpn hL hris
        refine wq_region_lit (fun ⟨_, _, h⟩ => h) rfl ?_
        refine vc_y hF rfl rfl (by decide) _ (y_move rfl rfl) (fun a hF => ?_)
        refine vc_y hF rfl rfl (by decide) _ (y_not rfl rfl rfl) (fun a hF => ?_)
        refine vc_y hF rfl rfl (by decide) _ (y_move rfl rfl) (fun a hF => ?_)
        refine vc_yg hF rfl rfl rfl rfl rfl (by decide) _ (y_ldRow (new := .int .i64 i.ct :: dc i.ch) rfl hA60.q rfl 0 rfl rw25_s18 (by rw [(show (Value.int .i64 i.ct :: dc i.ch).length = 33 by rw [List.length_cons, dc_length, hi.ch])]; exact Nat.le_refl _) (by rw [List.drop_zero]; exact List.take_of_length_le (by rw [(show (Value.int .i64 i.ct :: dc i.ch).length = 33 by rw [List.length_cons, dc_length, hi.ch])]; exact Nat.le_refl _))) (fun a hF => ?_)
        refine vc_yg hF rfl rfl rfl rfl rfl (by decide) _ (y_field rfl Tryd.underlying54 rfl sz25_s18 (by decide) rfl (rfl : (⟨_, 0 + _, none⟩ : Addr) = ⟨_, 32, none⟩)) (fun a hF => ?_)
        refine vc_yg hF rfl rfl rfl rfl rfl (by decide) _ (y_ldRow rfl hA60.q rfl 2 rfl rw25_s18 (itmC_le hi _ _ (by decide)) (itmC_ent hi)) (fun a hF => ?_)
        refine vc_yg hF rfl rfl rfl rfl rfl (by decide) _ (y_neEnt (b := false) rfl (by kernel_rfl) (by kernel_rfl) (by kernel_rfl) sp_entF (by decide) (by decide) rfl rfl Tryd.underlying3 Tryd.underlying23 Tryd.underlying5 sz5_s18 sz23_s18 hi.ch hi.ch rfl rfl (by simp)) (fun a hF => ?_)
        refine vc_y hF rfl rfl (by decide) _ (y_pick rfl rfl rfl) (fun a hF => ?_)
        refine vc_y hF rfl rfl (by decide) _ (y_move rfl rfl) (fun a hF => ?_)
        refine vc_yg hF rfl rfl rfl rfl rfl (by decide) _ (y_ld rfl hA60.q rfl 3 rfl rfl nr3_s18) (fun a hF => ?_)
        refine vc_yg hF rfl rfl rfl rfl rfl (by decide) _ (y_cmp rfl rfl rfl rfl (gtr_t (by omega))) (fun a hF => ?_)
        refine vc_yg hF rfl rfl rfl rfl rfl (by decide) _ (y_move rfl rfl) (fun a hF => ?_)
        refine vc_yg hF rfl rfl rfl rfl rfl (by decide) _ (y_ldRow (new := dc wk) rfl hA60.q rfl 4 rfl rw23_s18 (by rw [(show (dc wk).length = 32 by rw [dc_length, hwl])]; exact Nat.le_refl _) (by rw [List.drop_zero]; exact List.take_of_length_le (by rw [(show (dc wk).length = 32 by rw [dc_length, hwl])]; exact Nat.le_refl _))) (fun a hF => ?_)
        refine vc_yg hF rfl rfl rfl rfl rfl (by decide) _ (y_field rfl Tryd.underlying54 rfl sz23_s18 (by decide) rfl (rfl : (⟨_, 0 + _, none⟩ : Addr) = ⟨_, 0, none⟩)) (fun a hF => ?_)
        refine vc_yg hF rfl rfl rfl rfl rfl (by decide) _ (y_ldRow rfl hA60.q rfl 2 rfl rw23_s18 (itmC_le hi _ _ (by decide)) (itmC_key hi)) (fun a hF => ?_)
        refine vc_opg hF rfl rfl rfl rfl (fun K hK => ws_call hF rfl (by decide) cl35_s18 rfl rfl ?_)
        with_reducible refine (rt_rises w0 _ ([row b56 25 (.int .i64 i.ct :: dc i.ch)] :: [(l, rc .busy none)] :: [row b46 54 i.cells] :: [row b35 3 [.int .i64 ((pre.length : Nat) : Int)]] :: [row b40 23 (dc wk)] :: R) wk i.k hwl hi.k hA60 ).mono ?_
        rintro e' w61 ⟨rfl, hA62⟩
        refine ⟨_, rfl, fun a hF => hK _ _ ?_⟩
        clear hK K
        replace hA62 : Hp w0 ([row b56 25 (.int .i64 i.ct :: dc i.ch)] :: [(l, rc .busy none)] :: [row b46 54 i.cells] :: [row b35 3 [.int .i64 ((pre.length : Nat) : Int)]] :: [row b40 23 (dc wk)] :: R) w61 := hA62
        rw [decide_eq_true hrs] at hF
        refine vc_yg hF rfl rfl rfl rfl rfl (by decide) _ (y_not rfl rfl rfl) (fun a hF => ?_)
        refine vc_yg hF rfl rfl rfl rfl rfl (by decide) _ (y_pick rfl rfl rfl) (fun a hF => ?_)
        refine vc_y hF rfl rfl (by decide) _ (y_pick rfl rfl rfl) (fun a hF => ?_)
        refine vc_nil ?_
        refine hK18 _ _ ?_; clear  hK18 K18
        refine wq_false hF rfl ?_
        apply wpIn_skip
        refine hK17 _ _ ?_; clear  hK17 K17
        apply wq_seq_k; intro K19 hK19
        refine wq_region_lit (fun ⟨_, _, h⟩ => h) rfl ?_
        refine vc_y hF rfl rfl (by decide) _ (y_field rfl Tryd.underlying54 rfl sz23_s18 (by decide) rfl (rfl : (⟨_, 0 + _, none⟩ : Addr) = ⟨_, 0, none⟩)) (fun a hF => ?_)
        refine vc_y hF rfl rfl (by decide) _ (y_ldRow rfl hA62.q rfl 2 rfl rw23_s18 (itmC_le hi _ _ (by decide)) (itmC_key hi)) (fun a hF => ?_)
        refine vc_op rfl (fun K hK => hs_storeAll (new := dc i.k) hF rfl rfl hA62 rfl rfl 4 rfl (by rw [dc_length, dc_length, hi.k, hwl]) (dc_one _) (by rw [dc_length, hwl]; exact sz23_s18) (fun w63 hA64 => hK _ _ ?_))
        clear hK K
        replace hA64 : Hp w0 ([row b56 25 (.int .i64 i.ct :: dc i.ch)] :: [(l, rc .busy none)] :: [row b46 54 i.cells] :: [row b35 3 [.int .i64 ((pre.length : Nat) : Int)]] :: [row b40 23 (dc i.k)] :: R) w63 := hA64
        refine vc_nil ?_
        refine hK19 _ _ ?_; clear  hK19 K19
        apply wq_seq_k; intro K20 hK20
        refine wq_region_lit (fun ⟨_, _, h⟩ => h) rfl ?_
        refine vc_op rfl (fun K hK => hs_alloc1 hF rfl (by decide) rfl hA64 (zr3_s18) rfl (fun b65 w66 a hb65 hF hA67 => hK _ _ ?_))
        clear hK K
        replace hA67 : Hp w0 ([row b65 3 [.int .i64 0]] :: [row b56 25 (.int .i64 i.ct :: dc i.ch)] :: [(l, rc .busy none)] :: [row b46 54 i.cells] :: [row b35 3 [.int .i64 ((pre.length : Nat) : Int)]] :: [row b40 23 (dc i.k)] :: R) w66 := hA67
        refine vc_op rfl (fun K hK => hs_store1 hF rfl rfl hA67 rfl rfl 0 rfl (by simp) rfl sz3_s18 (fun w68 hA69 => hK _ _ ?_))
        clear hK K
        replace hA69 : Hp w0 ([row b65 3 [.int .i64 0]] :: [row b56 25 (.int .i64 i.ct :: dc i.ch)] :: [(l, rc .busy none)] :: [row b46 54 i.cells] :: [row b35 3 [.int .i64 ((pre.length : Nat) : Int)]] :: [row b40 23 (dc i.k)] :: R) w68 := hA69
        refine vc_nil ?_
        refine hK20 _ _ ?_; clear  hK20 K20
        apply wq_seq_k; intro K21 hK21
        apply wq_seq_k; intro K22 hK22
        refine wq_region_lit (fun ⟨_, _, h⟩ => h) rfl ?_
        refine vc_y hF rfl rfl (by decide) _ (y_ldC rfl (Hq.sub hA69.q (List.Subset.trans hG3 (subC (subC (subC (subC (subC (subC (sub0))))))))) rfl hSQ 0 (by simp) rfl rfl nr70_s18) (fun a hF => ?_)
        refine vc_nil ?_
        refine hK22 _ _ ?_; clear  hK22 K22
        apply wpIn_block
        have hA70 : Hp w0 ([(l, rc .busy none)] :: [row b65 3 [.int .i64 0]] :: [row b35 3 [.int .i64 ((pre.length : Nat) : Int)]] :: [row b46 54 i.cells] :: [row b40 23 (dc i.k)] :: R) w68 := Hp.sel [[row b65 3 [.int .i64 0]], [row b56 25 (.int .i64 i.ct :: dc i.ch)], [(l, rc .busy none)], [row b46 54 i.cells], [row b35 3 [.int .i64 ((pre.length : Nat) : Int)]], [row b40 23 (dc i.k)]] R [2, 0, 4, 3, 5] [1] hA69 rfl
        obtain ⟨G2, hG2⟩ : ∃ G2, G2 = [row b35 3 [.int .i64 ((pre.length : Nat) : Int)]] :: [row b46 54 i.cells] :: G := ⟨_, rfl⟩
        have hGG : G ⊆ G2 := by rw [hG2]; exact List.subset_cons_of_subset _ (List.subset_cons_of_subset _ (List.Subset.refl _))
        have hNr : Rw w0 G2 b35 [.int .i64 (pre.length : Int)] := Rw.ofMem (by rw [hG2]; exact List.mem_cons_self ..) (List.mem_cons_self ..)
        have hXr : Rw w0 G2 b46 i.cells := Rw.ofMem (by rw [hG2]; exact List.mem_cons_of_mem _ (List.mem_cons_self ..)) (List.mem_cons_self ..)
        refine wq_rangeN hF rfl cl66_s18 hrc hA70 (fun l2 rc2 w1 hrc2 hA1 => ?_)
        have hA2 : Hp w0 (([(l2, rc2 .ready none)] :: [row b65 3 [.int .i64 0]] :: []) ++ ([(l, rc .busy none)] :: [row b35 3 [.int .i64 ((pre.length : Nat) : Int)]] :: [row b46 54 i.cells] :: [row b40 23 (dc i.k)] :: R)) w1 := Hp.ord [[(l2, rc2 .ready none)], [(l, rc .busy none)], [row b65 3 [.int .i64 0]]] _ [0, 2, 1] hA1 rfl
        have hGR2 : G2 ⊆ ([(l, rc .busy none)] :: [row b35 3 [.int .i64 ((pre.length : Nat) : Int)]] :: [row b46 54 i.cells] :: [row b40 23 (dc i.k)] :: R) := fun x hx => by
          rw [hG2] at hx
          rcases List.mem_cons.1 hx with rfl | hx
          · exact List.mem_cons_of_mem _ (List.mem_cons_self ..)
          rcases List.mem_cons.1 hx with rfl | hx
          · exact List.mem_cons_of_mem _ (List.mem_cons_of_mem _ (List.mem_cons_self ..))
          · exact List.mem_cons_of_mem _ (List.mem_cons_of_mem _ (List.mem_cons_of_mem _ (List.mem_cons_of_mem _ (hG3 hx))))
        refine (rt_items1 (JS := fun pre2 S => S = [(l2, rc2 .ready none)] :: [row b65 3 [.int .i64 (pre2.length : Int)]] :: []) (JX := fun S => ∃ k : Int, S = [(l2, rc2 .done (some (.exit 2)))] :: [row b65 3 [.int .i64 k]] :: []) (G := G2) (hTVG.mono hGG) ?_ ([(l, rc .busy none)] :: [row b35 3 [.int .i64 ((pre.length : Nat) : Int)]] :: [row b46 54 i.cells] :: [row b40 23 (dc i.k)] :: R) _ hGR2 (hTB.mono hGG) rfl hA2).mono ?_
        · rintro pre2 j post2 hL2 hj w R2 S hG4 rfl hA
          have hp2 : pre2.length < L.length := by have := congrArg List.length hL2; rw [List.length_append, List.length_cons] at this; omega
          clear hA1 hA2
          refine hs_round hrc2 hF (p := 100) (by decide) hA (fun a hF => ?_)
          refine wq_region_lit (fun ⟨_, _, h⟩ => h) rfl ?_
          refine vc_op rfl (fun K hK => hs_alloc hF rfl (by decide) rfl hA (zr54_s18) (fun b71 w72 a hb71 hF hA73 => hK _ _ ?_))
          clear hK K
          replace hA73 : Hp w0 ([row b71 54 [.int .u8 0, .int .u8 0, .int .u8 0, .int .u8 0, .int .u8 0, .int .u8 0, .int .u8 0, .int .u8 0, .int .u8 0, .int .u8 0, .int .u8 0, .int .u8 0, .int .u8 0, .int .u8 0, .int .u8 0, .int .u8 0, .int .u8 0, .int .u8 0, .int .u8 0, .int .u8 0, .int .u8 0, .int .u8 0, .int .u8 0, .int .u8 0, .int .u8 0, .int .u8 0, .int .u8 0, .int .u8 0, .int .u8 0, .int .u8 0, .int .u8 0, .int .u8 0, .int .i64 0, .int .u8 0, .int .u8 0, .int .u8 0, .int .u8 0, .int .u8 0, .int .u8 0, .int .u8 0, .int .u8 0, .int .u8 0, .int .u8 0, .int .u8 0, .int .u8 0, .int .u8 0, .int .u8 0, .int .u8 0, .int .u8 0, .int .u8 0, .int .u8 0, .int .u8 0, .int .u8 0, .int .u8 0, .int .u8 0, .int .u8 0, .int .u8 0, .int .u8 0, .int .u8 0, .int .u8 0, .int .u8 0, .int .u8 0, .int .u8 0, .int .u8 0, .int .u8 0]] :: [(l2, rc2 .ready none)] :: [row b65 3 [.int .i64 ((pre2.length : Nat) : Int)]] :: R2) w72 := hA73
          refine vc_op rfl (fun K hK => hs_storeAll (new := j.cells) hF rfl rfl hA73 rfl rfl 0 rfl (by rw [Itm.len hj]; rfl) (Itm.one j) sz54_s18 (fun w74 hA75 => hK _ _ ?_))
          clear hK K
          replace hA75 : Hp w0 ([row b71 54 j.cells] :: [(l2, rc2 .ready none)] :: [row b65 3 [.int .i64 ((pre2.length : Nat) : Int)]] :: R2) w74 := hA75
          refine vc_nil ?_
          have hA76 : Hp w0 ([(l2, rc2 .ready none)] :: [row b71 54 j.cells] :: [row b65 3 [.int .i64 ((pre2.length : Nat) : Int)]] :: R2) w74 := Hp.ord [[row b71 54 j.cells], [(l2, rc2 .ready none)], [row b65 3 [.int .i64 ((pre2.length : Nat) : Int)]]] R2 [1, 0, 2] hA75 rfl
          refine ⟨[row b71 54 j.cells] :: [row b65 3 [.int .i64 ((pre2.length : Nat) : Int)]] :: R2, hA76, fun w77 hA78 => ?_⟩
          replace hA78 : Hp w0 ([(l2, rc2 .busy none)] :: [row b71 54 j.cells] :: [row b65 3 [.int .i64 ((pre2.length : Nat) : Int)]] :: R2) w77 := hA78
          by_cases hp0 : pre2 = []
          · have hz2 : pre2.length = 0 := by rw [hp0]; rfl
            have hne2 := first_apart hpn hL (show j :: post2 = L from by rw [← hL2, hp0]; rfl) hris
            apply wpIn_block
            apply wq_seq_k; intro K23 hK23
            apply wq_seq_k; intro K24 hK24
            refine wq_region_lit (fun ⟨_, _, h⟩ => h) rfl ?_
            refine vc_y hF rfl rfl (by decide) _ (y_ld rfl hA78.q rfl 2 rfl rfl nr3_s18) (fun a hF => ?_)
            refine vc_y hF rfl rfl (by decide) _ (y_cmp rfl rfl rfl rfl (eql_t (by omega))) (fun a hF => ?_)
            refine vc_y hF rfl rfl (by decide) _ (y_move rfl rfl) (fun a hF => ?_)
            refine vc_yg hF rfl rfl rfl rfl rfl (by decide) _ (y_ldC rfl (Hq.sub hA78.q (List.Subset.trans hG4 (subC (subC (subC (sub0)))))) rfl hNr 0 (by simp) rfl rfl nr3_s18) (fun a hF => ?_)
            refine vc_yg hF rfl rfl rfl rfl rfl (by decide) _ (y_cmp rfl rfl rfl rfl (gtr_t (by omega))) (fun a hF => ?_)
            refine vc_y hF rfl rfl (by decide) _ (y_pick rfl rfl rfl) (fun a hF => ?_)
            refine vc_y hF rfl rfl (by decide) _ (y_move rfl rfl) (fun a hF => ?_)
            refine vc_yg hF rfl rfl rfl rfl rfl (by decide) _ (y_field rfl Tryd.underlying54 rfl sz23_s18 (by decide) rfl (rfl : (⟨_, 0 + _, none⟩ : Addr) = ⟨_, 0, none⟩)) (fun a hF => ?_)
            refine vc_yg hF rfl rfl rfl rfl rfl (by decide) _ (y_ldRow rfl hA78.q rfl 1 rfl rw23_s18 (itmC_le hj _ _ (by decide)) (itmC_key hj)) (fun a hF => ?_)
            refine vc_yg hF rfl rfl rfl rfl rfl (by decide) _ (y_field rfl Tryd.underlying54 rfl sz23_s18 (by decide) rfl (rfl : (⟨_, 0 + _, none⟩ : Addr) = ⟨_, 0, none⟩)) (fun a hF => ?_)
            refine vc_yg hF rfl rfl rfl rfl rfl (by decide) _ (y_ldRowC rfl (Hq.sub hA78.q (List.Subset.trans hG4 (subC (subC (subC (sub0)))))) rfl hXr 0 (itmC_le hi _ _ (by decide)) rfl (itmC_key hi) rw23_s18) (fun a hF => ?_)
            refine vc_yg hF rfl rfl rfl rfl rfl (by decide) _ (y_eqB (c := false) rfl Tryd.underlying23 Tryd.underlying5 sz5_s18 (by kernel_rfl) rfl rfl hj.k hi.k (decide_eq_false hne2)) (fun a hF => ?_)
            refine vc_y hF rfl rfl (by decide) _ (y_pick rfl rfl rfl) (fun a hF => ?_)
            refine vc_nil ?_
            refine hK24 _ _ ?_; clear  hK24 K24
            refine wq_false hF rfl ?_
            apply wpIn_skip
            refine hK23 _ _ ?_; clear  hK23 K23
            apply wq_seq_k; intro K25 hK25
            refine wq_region_lit (fun ⟨_, _, h⟩ => h) rfl ?_
            refine vc_y hF rfl rfl (by decide) _ (y_ld rfl hA78.q rfl 2 rfl rfl nr3_s18) (fun a hF => ?_)
            refine vc_y hF rfl rfl (by decide) _ (y_add rfl rfl rfl (IntWalk.i64_in _ (by omega))) (fun a hF => ?_)
            refine vc_op rfl (fun K hK => hs_store1 hF rfl rfl hA78 rfl rfl 2 rfl (by simp) rfl sz3_s18 (fun w79 hA80 => hK _ _ ?_))
            clear hK K
            replace hA80 : Hp w0 ([(l2, rc2 .busy none)] :: [row b71 54 j.cells] :: [row b65 3 [.int .i64 ((((pre2.length : Nat) : Int)) + (1))]] :: R2) w79 := hA80
            refine vc_nil ?_
            refine hK25 _ _ ?_; clear  hK25 K25
            apply wq_seq_k; intro K26 hK26
            by_cases hbk : withinI cut 0 24 < (pre2.length : Int) + 1
            · refine wq_region_plan (fun ⟨_, _, h⟩ => h) rfl 3 [2,3] [0,1,2,3] (fun x => Hq w0 ([(l2, rc2 .busy none)] :: [row b71 54 j.cells] :: [row b65 3 [.int .i64 ((((pre2.length : Nat) : Int)) + (1))]] :: R2) x) (by kernel_rfl) (by kernel_rfl) (Hq.drew (Hp.qp [[(l2, rc2 .busy none)], [row b71 54 j.cells], [row b65 3 [.int .i64 ((((pre2.length : Nat) : Int)) + (1))]]] R2 [0, 1, 2] hA80)) ?_
              have hA81 := Hl.drew hA80
              refine vp_y hF rfl rfl rfl rfl (by decide) _ (fun x hx => y_ld rfl hx rfl 2 rfl rfl nr3_s18) (fun a hF => ?_)
              refine vp_y hF rfl rfl rfl rfl (by decide) _ (fun x hx => y_ldC rfl (Hq.sub hx (List.Subset.trans (List.Subset.trans hGG hG4) (subC (subC (subC (sub0)))))) rfl hCT 0 (by simp) rfl rfl nr3_s18) (fun a hF => ?_)
              refine vp_l rfl rfl rfl (fun K hK => ws_call hF rfl (by decide) cl36_s18 rfl rfl ?_)
              with_reducible refine (rt_within w0 _ ([(l2, rc2 .busy none)] :: [row b71 54 j.cells] :: [row b65 3 [.int .i64 ((((pre2.length : Nat) : Int)) + (1))]] :: R2) cut 0 24 (by decide) (by decide) (by decide) hA81 ).mono ?_
              rintro e' w82 ⟨rfl, hA83⟩
              refine ⟨_, rfl, fun a hF => hK _ _ (fun _ => ?_) ?_⟩
              · exact Hp.qp [[(l2, rc2 .busy none)], [row b71 54 j.cells], [row b65 3 [.int .i64 ((((pre2.length : Nat) : Int)) + (1))]]] R2 [0, 1, 2] hA83
              clear hK K
              replace hA83 : Hp w0 ([(l2, rc2 .busy none)] :: [row b71 54 j.cells] :: [row b65 3 [.int .i64 ((((pre2.length : Nat) : Int)) + (1))]] :: R2) w82 := hA83
              refine vp_ly hF rfl rfl rfl rfl (by decide) _ (y_cmp rfl rfl rfl rfl (gtr_t (by omega))) (fun h => absurd h (by decide)) (fun a hF => ?_)
              refine plan_end ?_
              refine hK26 _ _ ?_; clear  hK26 K26
              refine wq_true hF rfl ?_
              apply wpIn_exit
              simp only [Exit.then, Exit.inBlock, ↓reduceIte, Nat.reduceEqDiff]
              have hA84 : Hp w0 ([(l2, rc2 .busy none)] :: [row b65 3 [.int .i64 ((((pre2.length : Nat) : Int)) + (1))]] :: R2) w82 := Hp.sel [[(l2, rc2 .busy none)], [row b71 54 j.cells], [row b65 3 [.int .i64 ((((pre2.length : Nat) : Int)) + (1))]]] R2 [0, 2] [1] hA83 rfl
              exact rp_exit hrc2 hA84 (fun w' hA' => ⟨false, rfl, _, ⟨_, rfl⟩, hA'⟩)
            · refine wq_region_plan (fun ⟨_, _, h⟩ => h) rfl 3 [2,3] [0,1,2,3] (fun x => Hq w0 ([(l2, rc2 .busy none)] :: [row b71 54 j.cells] :: [row b65 3 [.int .i64 ((((pre2.length : Nat) : Int)) + (1))]] :: R2) x) (by kernel_rfl) (by kernel_rfl) (Hq.drew (Hp.qp [[(l2, rc2 .busy none)], [row b71 54 j.cells], [row b65 3 [.int .i64 ((((pre2.length : Nat) : Int)) + (1))]]] R2 [0, 1, 2] hA80)) ?_
              have hA85 := Hl.drew hA80
              refine vp_y hF rfl rfl rfl rfl (by decide) _ (fun x hx => y_ld rfl hx rfl 2 rfl rfl nr3_s18) (fun a hF => ?_)
              refine vp_y hF rfl rfl rfl rfl (by decide) _ (fun x hx => y_ldC rfl (Hq.sub hx (List.Subset.trans (List.Subset.trans hGG hG4) (subC (subC (subC (sub0)))))) rfl hCT 0 (by simp) rfl rfl nr3_s18) (fun a hF => ?_)
              refine vp_l rfl rfl rfl (fun K hK => ws_call hF rfl (by decide) cl36_s18 rfl rfl ?_)
              with_reducible refine (rt_within w0 _ ([(l2, rc2 .busy none)] :: [row b71 54 j.cells] :: [row b65 3 [.int .i64 ((((pre2.length : Nat) : Int)) + (1))]] :: R2) cut 0 24 (by decide) (by decide) (by decide) hA85 ).mono ?_
              rintro e' w86 ⟨rfl, hA87⟩
              refine ⟨_, rfl, fun a hF => hK _ _ (fun _ => ?_) ?_⟩
              · exact Hp.qp [[(l2, rc2 .busy none)], [row b71 54 j.cells], [row b65 3 [.int .i64 ((((pre2.length : Nat) : Int)) + (1))]]] R2 [0, 1, 2] hA87
              clear hK K
              replace hA87 : Hp w0 ([(l2, rc2 .busy none)] :: [row b71 54 j.cells] :: [row b65 3 [.int .i64 ((((pre2.length : Nat) : Int)) + (1))]] :: R2) w86 := hA87
              refine vp_ly hF rfl rfl rfl rfl (by decide) _ (y_cmp rfl rfl rfl rfl (gtr_f (by omega))) (fun h => absurd h (by decide)) (fun a hF => ?_)
              refine plan_end ?_
              refine hK26 _ _ ?_; clear  hK26 K26
              refine wq_false hF rfl ?_
              apply wpIn_skip
              simp only [Exit.inBlock]
              have hA88 : Hp w0 ([(l2, rc2 .busy none)] :: [row b65 3 [.int .i64 ((((pre2.length : Nat) : Int)) + (1))]] :: R2) w86 := Hp.sel [[(l2, rc2 .busy none)], [row b71 54 j.cells], [row b65 3 [.int .i64 ((((pre2.length : Nat) : Int)) + (1))]]] R2 [0, 2] [1] hA87 rfl
              exact rp_normal hrc2 hA88 (fun w' hA' => ⟨true, rfl, _, rfl, by rw [List.length_append, List.length_singleton]; exact hA'⟩)
          · have hz2 : 0 < pre2.length := List.length_pos_iff.2 hp0
            apply wpIn_block
            apply wq_seq_k; intro K27 hK27
            apply wq_seq_k; intro K28 hK28
            refine wq_region_lit (fun ⟨_, _, h⟩ => h) rfl ?_
            refine vc_y hF rfl rfl (by decide) _ (y_ld rfl hA78.q rfl 2 rfl rfl nr3_s18) (fun a hF => ?_)
            refine vc_y hF rfl rfl (by decide) _ (y_cmp rfl rfl rfl rfl (eql_f (by omega))) (fun a hF => ?_)
            refine vc_y hF rfl rfl (by decide) _ (y_move rfl rfl) (fun a hF => ?_)
            refine vc_skip hF rfl rfl rfl rfl rfl rfl (by decide) (fun a hF => ?_)
            refine vc_skip hF rfl rfl rfl rfl rfl rfl (by decide) (fun a hF => ?_)
            refine vc_y hF rfl rfl (by decide) _ (y_pick rfl rfl rfl) (fun a hF => ?_)
            refine vc_y hF rfl rfl (by decide) _ (y_move rfl rfl) (fun a hF => ?_)
            refine vc_skip hF rfl rfl rfl rfl rfl rfl (by decide) (fun a hF => ?_)
            refine vc_skip hF rfl rfl rfl rfl rfl rfl (by decide) (fun a hF => ?_)
            refine vc_skip hF rfl rfl rfl rfl rfl rfl (by decide) (fun a hF => ?_)
            refine vc_skip hF rfl rfl rfl rfl rfl rfl (by decide) (fun a hF => ?_)
            refine vc_skip hF rfl rfl rfl rfl rfl rfl (by decide) (fun a hF => ?_)
            refine vc_y hF rfl rfl (by decide) _ (y_pick rfl rfl rfl) (fun a hF => ?_)
            refine vc_nil ?_
            refine hK28 _ _ ?_; clear  hK28 K28
            refine wq_false hF rfl ?_
            apply wpIn_skip
            refine hK27 _ _ ?_; clear  hK27 K27
            apply wq_seq_k; intro K29 hK29
            refine wq_region_lit (fun ⟨_, _, h⟩ => h) rfl ?_
            refine vc_y hF rfl rfl (by decide) _ (y_ld rfl hA78.q rfl 2 rfl rfl nr3_s18) (fun a hF => ?_)
            refine vc_y hF rfl rfl (by decide) _ (y_add rfl rfl rfl (IntWalk.i64_in _ (by omega))) (fun a hF => ?_)
            refine vc_op rfl (fun K hK => hs_store1 hF rfl rfl hA78 rfl rfl 2 rfl (by simp) rfl sz3_s18 (fun w89 hA90 => hK _ _ ?_))
            clear hK K
            replace hA90 : Hp w0 ([(l2, rc2 .busy none)] :: [row b71 54 j.cells] :: [row b65 3 [.int .i64 ((((pre2.length : Nat) : Int)) + (1))]] :: R2) w89 := hA90
            refine vc_nil ?_
            refine hK29 _ _ ?_; clear  hK29 K29
            apply wq_seq_k; intro K30 hK30
            by_cases hbk : withinI cut 0 24 < (pre2.length : Int) + 1
            · refine wq_region_plan (fun ⟨_, _, h⟩ => h) rfl 3 [2,3] [0,1,2,3] (fun x => Hq w0 ([(l2, rc2 .busy none)] :: [row b71 54 j.cells] :: [row b65 3 [.int .i64 ((((pre2.length : Nat) : Int)) + (1))]] :: R2) x) (by kernel_rfl) (by kernel_rfl) (Hq.drew (Hp.qp [[(l2, rc2 .busy none)], [row b71 54 j.cells], [row b65 3 [.int .i64 ((((pre2.length : Nat) : Int)) + (1))]]] R2 [0, 1, 2] hA90)) ?_
              have hA91 := Hl.drew hA90
              refine vp_y hF rfl rfl rfl rfl (by decide) _ (fun x hx => y_ld rfl hx rfl 2 rfl rfl nr3_s18) (fun a hF => ?_)
              refine vp_y hF rfl rfl rfl rfl (by decide) _ (fun x hx => y_ldC rfl (Hq.sub hx (List.Subset.trans (List.Subset.trans hGG hG4) (subC (subC (subC (sub0)))))) rfl hCT 0 (by simp) rfl rfl nr3_s18) (fun a hF => ?_)
              refine vp_l rfl rfl rfl (fun K hK => ws_call hF rfl (by decide) cl36_s18 rfl rfl ?_)
              with_reducible refine (rt_within w0 _ ([(l2, rc2 .busy none)] :: [row b71 54 j.cells] :: [row b65 3 [.int .i64 ((((pre2.length : Nat) : Int)) + (1))]] :: R2) cut 0 24 (by decide) (by decide) (by decide) hA91 ).mono ?_
              rintro e' w92 ⟨rfl, hA93⟩
              refine ⟨_, rfl, fun a hF => hK _ _ (fun _ => ?_) ?_⟩
              · exact Hp.qp [[(l2, rc2 .busy none)], [row b71 54 j.cells], [row b65 3 [.int .i64 ((((pre2.length : Nat) : Int)) + (1))]]] R2 [0, 1, 2] hA93
              clear hK K
              replace hA93 : Hp w0 ([(l2, rc2 .busy none)] :: [row b71 54 j.cells] :: [row b65 3 [.int .i64 ((((pre2.length : Nat) : Int)) + (1))]] :: R2) w92 := hA93
              refine vp_ly hF rfl rfl rfl rfl (by decide) _ (y_cmp rfl rfl rfl rfl (gtr_t (by omega))) (fun h => absurd h (by decide)) (fun a hF => ?_)
              refine plan_end ?_
              refine hK30 _ _ ?_; clear  hK30 K30
              refine wq_true hF rfl ?_
              apply wpIn_exit
              simp only [Exit.then, Exit.inBlock, ↓reduceIte, Nat.reduceEqDiff]
              have hA94 : Hp w0 ([(l2, rc2 .busy none)] :: [row b65 3 [.int .i64 ((((pre2.length : Nat) : Int)) + (1))]] :: R2) w92 := Hp.sel [[(l2, rc2 .busy none)], [row b71 54 j.cells], [row b65 3 [.int .i64 ((((pre2.length : Nat) : Int)) + (1))]]] R2 [0, 2] [1] hA93 rfl
              exact rp_exit hrc2 hA94 (fun w' hA' => ⟨false, rfl, _, ⟨_, rfl⟩, hA'⟩)
            · refine wq_region_plan (fun ⟨_, _, h⟩ => h) rfl 3 [2,3] [0,1,2,3] (fun x => Hq w0 ([(l2, rc2 .busy none)] :: [row b71 54 j.cells] :: [row b65 3 [.int .i64 ((((pre2.length : Nat) : Int)) + (1))]] :: R2) x) (by kernel_rfl) (by kernel_rfl) (Hq.drew (Hp.qp [[(l2, rc2 .busy none)], [row b71 54 j.cells], [row b65 3 [.int .i64 ((((pre2.length : Nat) : Int)) + (1))]]] R2 [0, 1, 2] hA90)) ?_
              have hA95 := Hl.drew hA90
              refine vp_y hF rfl rfl rfl rfl (by decide) _ (fun x hx => y_ld rfl hx rfl 2 rfl rfl nr3_s18) (fun a hF => ?_)
              refine vp_y hF rfl rfl rfl rfl (by decide) _ (fun x hx => y_ldC rfl (Hq.sub hx (List.Subset.trans (List.Subset.trans hGG hG4) (subC (subC (subC (sub0)))))) rfl hCT 0 (by simp) rfl rfl nr3_s18) (fun a hF => ?_)
              refine vp_l rfl rfl rfl (fun K hK => ws_call hF rfl (by decide) cl36_s18 rfl rfl ?_)
              with_reducible refine (rt_within w0 _ ([(l2, rc2 .busy none)] :: [row b71 54 j.cells] :: [row b65 3 [.int .i64 ((((pre2.length : Nat) : Int)) + (1))]] :: R2) cut 0 24 (by decide) (by decide) (by decide) hA95 ).mono ?_
              rintro e' w96 ⟨rfl, hA97⟩
              refine ⟨_, rfl, fun a hF => hK _ _ (fun _ => ?_) ?_⟩
              · exact Hp.qp [[(l2, rc2 .busy none)], [row b71 54 j.cells], [row b65 3 [.int .i64 ((((pre2.length : Nat) : Int)) + (1))]]] R2 [0, 1, 2] hA97
              clear hK K
              replace hA97 : Hp w0 ([(l2, rc2 .busy none)] :: [row b71 54 j.cells] :: [row b65 3 [.int .i64 ((((pre2.length : Nat) : Int)) + (1))]] :: R2) w96 := hA97
              refine vp_ly hF rfl rfl rfl rfl (by decide) _ (y_cmp rfl rfl rfl rfl (gtr_f (by omega))) (fun h => absurd h (by decide)) (fun a hF => ?_)
              refine plan_end ?_
              refine hK30 _ _ ?_; clear  hK30 K30
              refine wq_false hF rfl ?_
              apply wpIn_skip
              simp only [Exit.inBlock]
              have hA98 : Hp w0 ([(l2, rc2 .busy none)] :: [row b65 3 [.int .i64 ((((pre2.length : Nat) : Int)) + (1))]] :: R2) w96 := Hp.sel [[(l2, rc2 .busy none)], [row b71 54 j.cells], [row b65 3 [.int .i64 ((((pre2.length : Nat) : Int)) + (1))]]] R2 [0, 2] [1] hA97 rfl
              exact rp_normal hrc2 hA98 (fun w' hA' => ⟨true, rfl, _, rfl, by rw [List.length_append, List.length_singleton]; exact hA'⟩)
        · rintro e w3 ⟨hret, b, hW⟩
          cases b
          · obtain ⟨_, ⟨km, rfl⟩, hA3⟩ := hW
            refine ⟨hret, .done, some (.exit 2), [row b65 3 [.int .i64 km]] :: ([(l, rc .busy none)] :: [row b35 3 [.int .i64 ((pre.length : Nat) : Int)]] :: [row b46 54 i.cells] :: [row b40 23 (dc i.k)] :: R), by simp, hA3, fun w4 hA4 => ?_⟩
            apply wpIn_exit
            refine hK21 _ _ ?_; clear  hK21 K21
            refine wq_region_lit (fun ⟨_, _, h⟩ => h) rfl ?_
            refine vc_y hF rfl rfl (by decide) _ (y_ld rfl hA4.q rfl 2 rfl rfl nr3_s18) (fun a hF => ?_)
            refine vc_y hF rfl rfl (by decide) _ (y_add rfl rfl rfl (IntWalk.i64_in _ (by omega))) (fun a hF => ?_)
            refine vc_op rfl (fun K hK => hs_store1 hF rfl rfl hA4 rfl rfl 2 rfl (by simp) rfl sz3_s18 (fun w99 hA100 => hK _ _ ?_))
            clear hK K
            replace hA100 : Hp w0 ([row b65 3 [.int .i64 km]] :: [(l, rc .busy none)] :: [row b35 3 [.int .i64 ((((pre.length : Nat) : Int)) + (1))]] :: [row b46 54 i.cells] :: [row b40 23 (dc i.k)] :: R) w99 := hA100
            refine vc_nil ?_
            simp only [Exit.inBlock]
            have hA101 : Hp w0 ([(l, rc .busy none)] :: [row b35 3 [.int .i64 ((((pre.length : Nat) : Int)) + (1))]] :: [row b40 23 (dc i.k)] :: R) w99 := Hp.sel [[row b65 3 [.int .i64 km]], [(l, rc .busy none)], [row b35 3 [.int .i64 ((((pre.length : Nat) : Int)) + (1))]], [row b46 54 i.cells], [row b40 23 (dc i.k)]] R [1, 2, 4] [0, 3] hA100 rfl
            exact rp_normal hrc hA101 (fun w' hA' => ⟨true, rfl, _, ⟨i.k, LastK.next hi, rfl⟩, by rw [List.length_append, List.length_singleton]; exact hA'⟩)
          · obtain ⟨_, rfl, hA3⟩ := hW
            refine ⟨hret, .ready, none, [row b65 3 [.int .i64 (L.length : Int)]] :: ([(l, rc .busy none)] :: [row b35 3 [.int .i64 ((pre.length : Nat) : Int)]] :: [row b46 54 i.cells] :: [row b40 23 (dc i.k)] :: R), by simp, hA3, fun w4 hA4 => ?_⟩
            refine hK21 _ _ ?_; clear  hK21 K21
            refine wq_region_lit (fun ⟨_, _, h⟩ => h) rfl ?_
            refine vc_y hF rfl rfl (by decide) _ (y_ld rfl hA4.q rfl 2 rfl rfl nr3_s18) (fun a hF => ?_)
            refine vc_y hF rfl rfl (by decide) _ (y_add rfl rfl rfl (IntWalk.i64_in _ (by omega))) (fun a hF => ?_)
            refine vc_op rfl (fun K hK => hs_store1 hF rfl rfl hA4 rfl rfl 2 rfl (by simp) rfl sz3_s18 (fun w102 hA103 => hK _ _ ?_))
            clear hK K
            replace hA103 : Hp w0 ([row b65 3 [.int .i64 (L.length : Int)]] :: [(l, rc .busy none)] :: [row b35 3 [.int .i64 ((((pre.length : Nat) : Int)) + (1))]] :: [row b46 54 i.cells] :: [row b40 23 (dc i.k)] :: R) w102 := hA103
            refine vc_nil ?_
            simp only [Exit.inBlock]
            have hA104 : Hp w0 ([(l, rc .busy none)] :: [row b35 3 [.int .i64 ((((pre.length : Nat) : Int)) + (1))]] :: [row b40 23 (dc i.k)] :: R) w102 := Hp.sel [[row b65 3 [.int .i64 (L.length : Int)]], [(l, rc .busy none)], [row b35 3 [.int .i64 ((((pre.length : Nat) : Int)) + (1))]], [row b46 54 i.cells], [row b40 23 (dc i.k)]] R [1, 2, 4] [0, 3] hA103 rfl
            exact rp_normal hrc hA104 (fun w' hA' => ⟨true, rfl, _, ⟨i.k, LastK.next hi, rfl⟩, by rw [List.length_append, List.length_singleton]; exact hA'⟩)
      · have hpp : pre.length = 0 := by rw [Decidable.not_not.1 hpn]; rfl
        refine wq_region_lit (fun ⟨_, _, h⟩ => h) rfl ?_
        refine vc_y hF rfl rfl (by decide) _ (y_move rfl rfl) (fun a hF => ?_)
        refine vc_y hF rfl rfl (by decide) _ (y_not rfl rfl rfl) (fun a hF => ?_)
        refine vc_y hF rfl rfl (by decide) _ (y_move rfl rfl) (fun a hF => ?_)
        refine vc_yg hF rfl rfl rfl rfl rfl (by decide) _ (y_ldRow (new := .int .i64 i.ct :: dc i.ch) rfl hA60.q rfl 0 rfl rw25_s18 (by rw [(show (Value.int .i64 i.ct :: dc i.ch).length = 33 by rw [List.length_cons, dc_length, hi.ch])]; exact Nat.le_refl _) (by rw [List.drop_zero]; exact List.take_of_length_le (by rw [(show (Value.int .i64 i.ct :: dc i.ch).length = 33 by rw [List.length_cons, dc_length, hi.ch])]; exact Nat.le_refl _))) (fun a hF => ?_)
        refine vc_yg hF rfl rfl rfl rfl rfl (by decide) _ (y_field rfl Tryd.underlying54 rfl sz25_s18 (by decide) rfl (rfl : (⟨_, 0 + _, none⟩ : Addr) = ⟨_, 32, none⟩)) (fun a hF => ?_)
        refine vc_yg hF rfl rfl rfl rfl rfl (by decide) _ (y_ldRow rfl hA60.q rfl 2 rfl rw25_s18 (itmC_le hi _ _ (by decide)) (itmC_ent hi)) (fun a hF => ?_)
        refine vc_yg hF rfl rfl rfl rfl rfl (by decide) _ (y_neEnt (b := false) rfl (by kernel_rfl) (by kernel_rfl) (by kernel_rfl) sp_entF (by decide) (by decide) rfl rfl Tryd.underlying3 Tryd.underlying23 Tryd.underlying5 sz5_s18 sz23_s18 hi.ch hi.ch rfl rfl (by simp)) (fun a hF => ?_)
        refine vc_y hF rfl rfl (by decide) _ (y_pick rfl rfl rfl) (fun a hF => ?_)
        refine vc_y hF rfl rfl (by decide) _ (y_move rfl rfl) (fun a hF => ?_)
        refine vc_yg hF rfl rfl rfl rfl rfl (by decide) _ (y_ld rfl hA60.q rfl 3 rfl rfl nr3_s18) (fun a hF => ?_)
        refine vc_yg hF rfl rfl rfl rfl rfl (by decide) _ (y_cmp rfl rfl rfl rfl (gtr_f (by omega))) (fun a hF => ?_)
        refine vc_yg hF rfl rfl rfl rfl rfl (by decide) _ (y_move rfl rfl) (fun a hF => ?_)
        refine vc_skip hF rfl rfl rfl rfl rfl rfl (by decide) (fun a hF => ?_)
        refine vc_skip hF rfl rfl rfl rfl rfl rfl (by decide) (fun a hF => ?_)
        refine vc_skip hF rfl rfl rfl rfl rfl rfl (by decide) (fun a hF => ?_)
        refine vc_skip hF rfl rfl rfl rfl rfl rfl (by decide) (fun a hF => ?_)
        refine vc_skip hF rfl rfl rfl rfl rfl rfl (by decide) (fun a hF => ?_)
        refine vc_yg hF rfl rfl rfl rfl rfl (by decide) _ (y_pick rfl rfl rfl) (fun a hF => ?_)
        refine vc_y hF rfl rfl (by decide) _ (y_pick rfl rfl rfl) (fun a hF => ?_)
        refine vc_nil ?_
        refine hK18 _ _ ?_; clear  hK18 K18
        refine wq_false hF rfl ?_
        apply wpIn_skip
        refine hK17 _ _ ?_; clear  hK17 K17
        apply wq_seq_k; intro K31 hK31
        refine wq_region_lit (fun ⟨_, _, h⟩ => h) rfl ?_
        refine vc_y hF rfl rfl (by decide) _ (y_field rfl Tryd.underlying54 rfl sz23_s18 (by decide) rfl (rfl : (⟨_, 0 + _, none⟩ : Addr) = ⟨_, 0, none⟩)) (fun a hF => ?_)
        refine vc_y hF rfl rfl (by decide) _ (y_ldRow rfl hA60.q rfl 2 rfl rw23_s18 (itmC_le hi _ _ (by decide)) (itmC_key hi)) (fun a hF => ?_)
        refine vc_op rfl (fun K hK => hs_storeAll (new := dc i.k) hF rfl rfl hA60 rfl rfl 4 rfl (by rw [dc_length, dc_length, hi.k, hwl]) (dc_one _) (by rw [dc_length, hwl]; exact sz23_s18) (fun w105 hA106 => hK _ _ ?_))
        clear hK K
        replace hA106 : Hp w0 ([row b56 25 (.int .i64 i.ct :: dc i.ch)] :: [(l, rc .busy none)] :: [row b46 54 i.cells] :: [row b35 3 [.int .i64 ((pre.length : Nat) : Int)]] :: [row b40 23 (dc i.k)] :: R) w105 := hA106
        refine vc_nil ?_
        refine hK31 _ _ ?_; clear  hK31 K31
        apply wq_seq_k; intro K32 hK32
        refine wq_region_lit (fun ⟨_, _, h⟩ => h) rfl ?_
        refine vc_op rfl (fun K hK => hs_alloc1 hF rfl (by decide) rfl hA106 (zr3_s18) rfl (fun b107 w108 a hb107 hF hA109 => hK _ _ ?_))
        clear hK K
        replace hA109 : Hp w0 ([row b107 3 [.int .i64 0]] :: [row b56 25 (.int .i64 i.ct :: dc i.ch)] :: [(l, rc .busy none)] :: [row b46 54 i.cells] :: [row b35 3 [.int .i64 ((pre.length : Nat) : Int)]] :: [row b40 23 (dc i.k)] :: R) w108 := hA109
        refine vc_op rfl (fun K hK => hs_store1 hF rfl rfl hA109 rfl rfl 0 rfl (by simp) rfl sz3_s18 (fun w110 hA111 => hK _ _ ?_))
        clear hK K
        replace hA111 : Hp w0 ([row b107 3 [.int .i64 0]] :: [row b56 25 (.int .i64 i.ct :: dc i.ch)] :: [(l, rc .busy none)] :: [row b46 54 i.cells] :: [row b35 3 [.int .i64 ((pre.length : Nat) : Int)]] :: [row b40 23 (dc i.k)] :: R) w110 := hA111
        refine vc_nil ?_
        refine hK32 _ _ ?_; clear  hK32 K32
        apply wq_seq_k; intro K33 hK33
        apply wq_seq_k; intro K34 hK34
        refine wq_region_lit (fun ⟨_, _, h⟩ => h) rfl ?_
        refine vc_y hF rfl rfl (by decide) _ (y_ldC rfl (Hq.sub hA111.q (List.Subset.trans hG3 (subC (subC (subC (subC (subC (subC (sub0))))))))) rfl hSQ 0 (by simp) rfl rfl nr70_s18) (fun a hF => ?_)
        refine vc_nil ?_
        refine hK34 _ _ ?_; clear  hK34 K34
        apply wpIn_block
        have hA112 : Hp w0 ([(l, rc .busy none)] :: [row b107 3 [.int .i64 0]] :: [row b35 3 [.int .i64 ((pre.length : Nat) : Int)]] :: [row b46 54 i.cells] :: [row b40 23 (dc i.k)] :: R) w110 := Hp.sel [[row b107 3 [.int .i64 0]], [row b56 25 (.int .i64 i.ct :: dc i.ch)], [(l, rc .busy none)], [row b46 54 i.cells], [row b35 3 [.int .i64 ((pre.length : Nat) : Int)]], [row b40 23 (dc i.k)]] R [2, 0, 4, 3, 5] [1] hA111 rfl
        obtain ⟨G2, hG2⟩ : ∃ G2, G2 = [row b35 3 [.int .i64 ((pre.length : Nat) : Int)]] :: [row b46 54 i.cells] :: G := ⟨_, rfl⟩
        have hGG : G ⊆ G2 := by rw [hG2]; exact List.subset_cons_of_subset _ (List.subset_cons_of_subset _ (List.Subset.refl _))
        have hNr : Rw w0 G2 b35 [.int .i64 (pre.length : Int)] := Rw.ofMem (by rw [hG2]; exact List.mem_cons_self ..) (List.mem_cons_self ..)
        have hXr : Rw w0 G2 b46 i.cells := Rw.ofMem (by rw [hG2]; exact List.mem_cons_of_mem _ (List.mem_cons_self ..)) (List.mem_cons_self ..)
        refine wq_rangeN hF rfl cl66_s18 hrc hA112 (fun l2 rc2 w1 hrc2 hA1 => ?_)
        have hA2 : Hp w0 (([(l2, rc2 .ready none)] :: [row b107 3 [.int .i64 0]] :: []) ++ ([(l, rc .busy none)] :: [row b35 3 [.int .i64 ((pre.length : Nat) : Int)]] :: [row b46 54 i.cells] :: [row b40 23 (dc i.k)] :: R)) w1 := Hp.ord [[(l2, rc2 .ready none)], [(l, rc .busy none)], [row b107 3 [.int .i64 0]]] _ [0, 2, 1] hA1 rfl
        have hGR2 : G2 ⊆ ([(l, rc .busy none)] :: [row b35 3 [.int .i64 ((pre.length : Nat) : Int)]] :: [row b46 54 i.cells] :: [row b40 23 (dc i.k)] :: R) := fun x hx => by
          rw [hG2] at hx
          rcases List.mem_cons.1 hx with rfl | hx
          · exact List.mem_cons_of_mem _ (List.mem_cons_self ..)
          rcases List.mem_cons.1 hx with rfl | hx
          · exact List.mem_cons_of_mem _ (List.mem_cons_of_mem _ (List.mem_cons_self ..))
          · exact List.mem_cons_of_mem _ (List.mem_cons_of_mem _ (List.mem_cons_of_mem _ (List.mem_cons_of_mem _ (hG3 hx))))
        refine (rt_items1 (JS := fun pre2 S => S = [(l2, rc2 .ready none)] :: [row b107 3 [.int .i64 (pre2.length : Int)]] :: []) (JX := fun S => ∃ k : Int, S = [(l2, rc2 .done (some (.exit 2)))] :: [row b107 3 [.int .i64 k]] :: []) (G := G2) (hTVG.mono hGG) ?_ ([(l, rc .busy none)] :: [row b35 3 [.int .i64 ((pre.length : Nat) : Int)]] :: [row b46 54 i.cells] :: [row b40 23 (dc i.k)] :: R) _ hGR2 (hTB.mono hGG) rfl hA2).mono ?_
        · rintro pre2 j post2 hL2 hj w R2 S hG4 rfl hA
          have hp2 : pre2.length < L.length := by have := congrArg List.length hL2; rw [List.length_append, List.length_cons] at this; omega
          clear hA1 hA2
          refine hs_round hrc2 hF (p := 100) (by decide) hA (fun a hF => ?_)
          refine wq_region_lit (fun ⟨_, _, h⟩ => h) rfl ?_
          refine vc_op rfl (fun K hK => hs_alloc hF rfl (by decide) rfl hA (zr54_s18) (fun b113 w114 a hb113 hF hA115 => hK _ _ ?_))
          clear hK K
          replace hA115 : Hp w0 ([row b113 54 [.int .u8 0, .int .u8 0, .int .u8 0, .int .u8 0, .int .u8 0, .int .u8 0, .int .u8 0, .int .u8 0, .int .u8 0, .int .u8 0, .int .u8 0, .int .u8 0, .int .u8 0, .int .u8 0, .int .u8 0, .int .u8 0, .int .u8 0, .int .u8 0, .int .u8 0, .int .u8 0, .int .u8 0, .int .u8 0, .int .u8 0, .int .u8 0, .int .u8 0, .int .u8 0, .int .u8 0, .int .u8 0, .int .u8 0, .int .u8 0, .int .u8 0, .int .u8 0, .int .i64 0, .int .u8 0, .int .u8 0, .int .u8 0, .int .u8 0, .int .u8 0, .int .u8 0, .int .u8 0, .int .u8 0, .int .u8 0, .int .u8 0, .int .u8 0, .int .u8 0, .int .u8 0, .int .u8 0, .int .u8 0, .int .u8 0, .int .u8 0, .int .u8 0, .int .u8 0, .int .u8 0, .int .u8 0, .int .u8 0, .int .u8 0, .int .u8 0, .int .u8 0, .int .u8 0, .int .u8 0, .int .u8 0, .int .u8 0, .int .u8 0, .int .u8 0, .int .u8 0]] :: [(l2, rc2 .ready none)] :: [row b107 3 [.int .i64 ((pre2.length : Nat) : Int)]] :: R2) w114 := hA115
          refine vc_op rfl (fun K hK => hs_storeAll (new := j.cells) hF rfl rfl hA115 rfl rfl 0 rfl (by rw [Itm.len hj]; rfl) (Itm.one j) sz54_s18 (fun w116 hA117 => hK _ _ ?_))
          clear hK K
          replace hA117 : Hp w0 ([row b113 54 j.cells] :: [(l2, rc2 .ready none)] :: [row b107 3 [.int .i64 ((pre2.length : Nat) : Int)]] :: R2) w116 := hA117
          refine vc_nil ?_
          have hA118 : Hp w0 ([(l2, rc2 .ready none)] :: [row b113 54 j.cells] :: [row b107 3 [.int .i64 ((pre2.length : Nat) : Int)]] :: R2) w116 := Hp.ord [[row b113 54 j.cells], [(l2, rc2 .ready none)], [row b107 3 [.int .i64 ((pre2.length : Nat) : Int)]]] R2 [1, 0, 2] hA117 rfl
          refine ⟨[row b113 54 j.cells] :: [row b107 3 [.int .i64 ((pre2.length : Nat) : Int)]] :: R2, hA118, fun w119 hA120 => ?_⟩
          replace hA120 : Hp w0 ([(l2, rc2 .busy none)] :: [row b113 54 j.cells] :: [row b107 3 [.int .i64 ((pre2.length : Nat) : Int)]] :: R2) w119 := hA120
          by_cases hp0 : pre2 = []
          · have hz2 : pre2.length = 0 := by rw [hp0]; rfl
            apply wpIn_block
            apply wq_seq_k; intro K35 hK35
            apply wq_seq_k; intro K36 hK36
            refine wq_region_lit (fun ⟨_, _, h⟩ => h) rfl ?_
            refine vc_y hF rfl rfl (by decide) _ (y_ld rfl hA120.q rfl 2 rfl rfl nr3_s18) (fun a hF => ?_)
            refine vc_y hF rfl rfl (by decide) _ (y_cmp rfl rfl rfl rfl (eql_t (by omega))) (fun a hF => ?_)
            refine vc_y hF rfl rfl (by decide) _ (y_move rfl rfl) (fun a hF => ?_)
            refine vc_yg hF rfl rfl rfl rfl rfl (by decide) _ (y_ldC rfl (Hq.sub hA120.q (List.Subset.trans hG4 (subC (subC (subC (sub0)))))) rfl hNr 0 (by simp) rfl rfl nr3_s18) (fun a hF => ?_)
            refine vc_yg hF rfl rfl rfl rfl rfl (by decide) _ (y_cmp rfl rfl rfl rfl (gtr_f (by omega))) (fun a hF => ?_)
            refine vc_y hF rfl rfl (by decide) _ (y_pick rfl rfl rfl) (fun a hF => ?_)
            refine vc_y hF rfl rfl (by decide) _ (y_move rfl rfl) (fun a hF => ?_)
            refine vc_skip hF rfl rfl rfl rfl rfl rfl (by decide) (fun a hF => ?_)
            refine vc_skip hF rfl rfl rfl rfl rfl rfl (by decide) (fun a hF => ?_)
            refine vc_skip hF rfl rfl rfl rfl rfl rfl (by decide) (fun a hF => ?_)
            refine vc_skip hF rfl rfl rfl rfl rfl rfl (by decide) (fun a hF => ?_)
            refine vc_skip hF rfl rfl rfl rfl rfl rfl (by decide) (fun a hF => ?_)
            refine vc_y hF rfl rfl (by decide) _ (y_pick rfl rfl rfl) (fun a hF => ?_)
            refine vc_nil ?_
            refine hK36 _ _ ?_; clear  hK36 K36
            refine wq_false hF rfl ?_
            apply wpIn_skip
            refine hK35 _ _ ?_; clear  hK35 K35
            apply wq_seq_k; intro K37 hK37
            refine wq_region_lit (fun ⟨_, _, h⟩ => h) rfl ?_
            refine vc_y hF rfl rfl (by decide) _ (y_ld rfl hA120.q rfl 2 rfl rfl nr3_s18) (fun a hF => ?_)
            refine vc_y hF rfl rfl (by decide) _ (y_add rfl rfl rfl (IntWalk.i64_in _ (by omega))) (fun a hF => ?_)
            refine vc_op rfl (fun K hK => hs_store1 hF rfl rfl hA120 rfl rfl 2 rfl (by simp) rfl sz3_s18 (fun w121 hA122 => hK _ _ ?_))
            clear hK K
            replace hA122 : Hp w0 ([(l2, rc2 .busy none)] :: [row b113 54 j.cells] :: [row b107 3 [.int .i64 ((((pre2.length : Nat) : Int)) + (1))]] :: R2) w121 := hA122
            refine vc_nil ?_
            refine hK37 _ _ ?_; clear  hK37 K37
            apply wq_seq_k; intro K38 hK38
            by_cases hbk : withinI cut 0 24 < (pre2.length : Int) + 1
            · refine wq_region_plan (fun ⟨_, _, h⟩ => h) rfl 3 [2,3] [0,1,2,3] (fun x => Hq w0 ([(l2, rc2 .busy none)] :: [row b113 54 j.cells] :: [row b107 3 [.int .i64 ((((pre2.length : Nat) : Int)) + (1))]] :: R2) x) (by kernel_rfl) (by kernel_rfl) (Hq.drew (Hp.qp [[(l2, rc2 .busy none)], [row b113 54 j.cells], [row b107 3 [.int .i64 ((((pre2.length : Nat) : Int)) + (1))]]] R2 [0, 1, 2] hA122)) ?_
              have hA123 := Hl.drew hA122
              refine vp_y hF rfl rfl rfl rfl (by decide) _ (fun x hx => y_ld rfl hx rfl 2 rfl rfl nr3_s18) (fun a hF => ?_)
              refine vp_y hF rfl rfl rfl rfl (by decide) _ (fun x hx => y_ldC rfl (Hq.sub hx (List.Subset.trans (List.Subset.trans hGG hG4) (subC (subC (subC (sub0)))))) rfl hCT 0 (by simp) rfl rfl nr3_s18) (fun a hF => ?_)
              refine vp_l rfl rfl rfl (fun K hK => ws_call hF rfl (by decide) cl36_s18 rfl rfl ?_)
              with_reducible refine (rt_within w0 _ ([(l2, rc2 .busy none)] :: [row b113 54 j.cells] :: [row b107 3 [.int .i64 ((((pre2.length : Nat) : Int)) + (1))]] :: R2) cut 0 24 (by decide) (by decide) (by decide) hA123 ).mono ?_
              rintro e' w124 ⟨rfl, hA125⟩
              refine ⟨_, rfl, fun a hF => hK _ _ (fun _ => ?_) ?_⟩
              · exact Hp.qp [[(l2, rc2 .busy none)], [row b113 54 j.cells], [row b107 3 [.int .i64 ((((pre2.length : Nat) : Int)) + (1))]]] R2 [0, 1, 2] hA125
              clear hK K
              replace hA125 : Hp w0 ([(l2, rc2 .busy none)] :: [row b113 54 j.cells] :: [row b107 3 [.int .i64 ((((pre2.length : Nat) : Int)) + (1))]] :: R2) w124 := hA125
              refine vp_ly hF rfl rfl rfl rfl (by decide) _ (y_cmp rfl rfl rfl rfl (gtr_t (by omega))) (fun h => absurd h (by decide)) (fun a hF => ?_)
              refine plan_end ?_
              refine hK38 _ _ ?_; clear  hK38 K38
              refine wq_true hF rfl ?_
              apply wpIn_exit
              simp only [Exit.then, Exit.inBlock, ↓reduceIte, Nat.reduceEqDiff]
              have hA126 : Hp w0 ([(l2, rc2 .busy none)] :: [row b107 3 [.int .i64 ((((pre2.length : Nat) : Int)) + (1))]] :: R2) w124 := Hp.sel [[(l2, rc2 .busy none)], [row b113 54 j.cells], [row b107 3 [.int .i64 ((((pre2.length : Nat) : Int)) + (1))]]] R2 [0, 2] [1] hA125 rfl
              exact rp_exit hrc2 hA126 (fun w' hA' => ⟨false, rfl, _, ⟨_, rfl⟩, hA'⟩)
            · refine wq_region_plan (fun ⟨_, _, h⟩ => h) rfl 3 [2,3] [0,1,2,3] (fun x => Hq w0 ([(l2, rc2 .busy none)] :: [row b113 54 j.cells] :: [row b107 3 [.int .i64 ((((pre2.length : Nat) : Int)) + (1))]] :: R2) x) (by kernel_rfl) (by kernel_rfl) (Hq.drew (Hp.qp [[(l2, rc2 .busy none)], [row b113 54 j.cells], [row b107 3 [.int .i64 ((((pre2.length : Nat) : Int)) + (1))]]] R2 [0, 1, 2] hA122)) ?_
              have hA127 := Hl.drew hA122
              refine vp_y hF rfl rfl rfl rfl (by decide) _ (fun x hx => y_ld rfl hx rfl 2 rfl rfl nr3_s18) (fun a hF => ?_)
              refine vp_y hF rfl rfl rfl rfl (by decide) _ (fun x hx => y_ldC rfl (Hq.sub hx (List.Subset.trans (List.Subset.trans hGG hG4) (subC (subC (subC (sub0)))))) rfl hCT 0 (by simp) rfl rfl nr3_s18) (fun a hF => ?_)
              refine vp_l rfl rfl rfl (fun K hK => ws_call hF rfl (by decide) cl36_s18 rfl rfl ?_)
              with_reducible refine (rt_within w0 _ ([(l2, rc2 .busy none)] :: [row b113 54 j.cells] :: [row b107 3 [.int .i64 ((((pre2.length : Nat) : Int)) + (1))]] :: R2) cut 0 24 (by decide) (by decide) (by decide) hA127 ).mono ?_
              rintro e' w128 ⟨rfl, hA129⟩
              refine ⟨_, rfl, fun a hF => hK _ _ (fun _ => ?_) ?_⟩
              · exact Hp.qp [[(l2, rc2 .busy none)], [row b113 54 j.cells], [row b107 3 [.int .i64 ((((pre2.length : Nat) : Int)) + (1))]]] R2 [0, 1, 2] hA129
              clear hK K
              replace hA129 : Hp w0 ([(l2, rc2 .busy none)] :: [row b113 54 j.cells] :: [row b107 3 [.int .i64 ((((pre2.length : Nat) : Int)) + (1))]] :: R2) w128 := hA129
              refine vp_ly hF rfl rfl rfl rfl (by decide) _ (y_cmp rfl rfl rfl rfl (gtr_f (by omega))) (fun h => absurd h (by decide)) (fun a hF => ?_)
              refine plan_end ?_
              refine hK38 _ _ ?_; clear  hK38 K38
              refine wq_false hF rfl ?_
              apply wpIn_skip
              simp only [Exit.inBlock]
              have hA130 : Hp w0 ([(l2, rc2 .busy none)] :: [row b107 3 [.int .i64 ((((pre2.length : Nat) : Int)) + (1))]] :: R2) w128 := Hp.sel [[(l2, rc2 .busy none)], [row b113 54 j.cells], [row b107 3 [.int .i64 ((((pre2.length : Nat) : Int)) + (1))]]] R2 [0, 2] [1] hA129 rfl
              exact rp_normal hrc2 hA130 (fun w' hA' => ⟨true, rfl, _, rfl, by rw [List.length_append, List.length_singleton]; exact hA'⟩)
          · have hz2 : 0 < pre2.length := List.length_pos_iff.2 hp0
            apply wpIn_block
            apply wq_seq_k; intro K39 hK39
            apply wq_seq_k; intro K40 hK40
            refine wq_region_lit (fun ⟨_, _, h⟩ => h) rfl ?_
            refine vc_y hF rfl rfl (by decide) _ (y_ld rfl hA120.q rfl 2 rfl rfl nr3_s18) (fun a hF => ?_)
            refine vc_y hF rfl rfl (by decide) _ (y_cmp rfl rfl rfl rfl (eql_f (by omega))) (fun a hF => ?_)
            refine vc_y hF rfl rfl (by decide) _ (y_move rfl rfl) (fun a hF => ?_)
            refine vc_skip hF rfl rfl rfl rfl rfl rfl (by decide) (fun a hF => ?_)
            refine vc_skip hF rfl rfl rfl rfl rfl rfl (by decide) (fun a hF => ?_)
            refine vc_y hF rfl rfl (by decide) _ (y_pick rfl rfl rfl) (fun a hF => ?_)
            refine vc_y hF rfl rfl (by decide) _ (y_move rfl rfl) (fun a hF => ?_)
            refine vc_skip hF rfl rfl rfl rfl rfl rfl (by decide) (fun a hF => ?_)
            refine vc_skip hF rfl rfl rfl rfl rfl rfl (by decide) (fun a hF => ?_)
            refine vc_skip hF rfl rfl rfl rfl rfl rfl (by decide) (fun a hF => ?_)
            refine vc_skip hF rfl rfl rfl rfl rfl rfl (by decide) (fun a hF => ?_)
            refine vc_skip hF rfl rfl rfl rfl rfl rfl (by decide) (fun a hF => ?_)
            refine vc_y hF rfl rfl (by decide) _ (y_pick rfl rfl rfl) (fun a hF => ?_)
            refine vc_nil ?_
            refine hK40 _ _ ?_; clear  hK40 K40
            refine wq_false hF rfl ?_
            apply wpIn_skip
            refine hK39 _ _ ?_; clear  hK39 K39
            apply wq_seq_k; intro K41 hK41
            refine wq_region_lit (fun ⟨_, _, h⟩ => h) rfl ?_
            refine vc_y hF rfl rfl (by decide) _ (y_ld rfl hA120.q rfl 2 rfl rfl nr3_s18) (fun a hF => ?_)
            refine vc_y hF rfl rfl (by decide) _ (y_add rfl rfl rfl (IntWalk.i64_in _ (by omega))) (fun a hF => ?_)
            refine vc_op rfl (fun K hK => hs_store1 hF rfl rfl hA120 rfl rfl 2 rfl (by simp) rfl sz3_s18 (fun w131 hA132 => hK _ _ ?_))
            clear hK K
            replace hA132 : Hp w0 ([(l2, rc2 .busy none)] :: [row b113 54 j.cells] :: [row b107 3 [.int .i64 ((((pre2.length : Nat) : Int)) + (1))]] :: R2) w131 := hA132
            refine vc_nil ?_
            refine hK41 _ _ ?_; clear  hK41 K41
            apply wq_seq_k; intro K42 hK42
            by_cases hbk : withinI cut 0 24 < (pre2.length : Int) + 1
            · refine wq_region_plan (fun ⟨_, _, h⟩ => h) rfl 3 [2,3] [0,1,2,3] (fun x => Hq w0 ([(l2, rc2 .busy none)] :: [row b113 54 j.cells] :: [row b107 3 [.int .i64 ((((pre2.length : Nat) : Int)) + (1))]] :: R2) x) (by kernel_rfl) (by kernel_rfl) (Hq.drew (Hp.qp [[(l2, rc2 .busy none)], [row b113 54 j.cells], [row b107 3 [.int .i64 ((((pre2.length : Nat) : Int)) + (1))]]] R2 [0, 1, 2] hA132)) ?_
              have hA133 := Hl.drew hA132
              refine vp_y hF rfl rfl rfl rfl (by decide) _ (fun x hx => y_ld rfl hx rfl 2 rfl rfl nr3_s18) (fun a hF => ?_)
              refine vp_y hF rfl rfl rfl rfl (by decide) _ (fun x hx => y_ldC rfl (Hq.sub hx (List.Subset.trans (List.Subset.trans hGG hG4) (subC (subC (subC (sub0)))))) rfl hCT 0 (by simp) rfl rfl nr3_s18) (fun a hF => ?_)
              refine vp_l rfl rfl rfl (fun K hK => ws_call hF rfl (by decide) cl36_s18 rfl rfl ?_)
              with_reducible refine (rt_within w0 _ ([(l2, rc2 .busy none)] :: [row b113 54 j.cells] :: [row b107 3 [.int .i64 ((((pre2.length : Nat) : Int)) + (1))]] :: R2) cut 0 24 (by decide) (by decide) (by decide) hA133 ).mono ?_
              rintro e' w134 ⟨rfl, hA135⟩
              refine ⟨_, rfl, fun a hF => hK _ _ (fun _ => ?_) ?_⟩
              · exact Hp.qp [[(l2, rc2 .busy none)], [row b113 54 j.cells], [row b107 3 [.int .i64 ((((pre2.length : Nat) : Int)) + (1))]]] R2 [0, 1, 2] hA135
              clear hK K
              replace hA135 : Hp w0 ([(l2, rc2 .busy none)] :: [row b113 54 j.cells] :: [row b107 3 [.int .i64 ((((pre2.length : Nat) : Int)) + (1))]] :: R2) w134 := hA135
              refine vp_ly hF rfl rfl rfl rfl (by decide) _ (y_cmp rfl rfl rfl rfl (gtr_t (by omega))) (fun h => absurd h (by decide)) (fun a hF => ?_)
              refine plan_end ?_
              refine hK42 _ _ ?_; clear  hK42 K42
              refine wq_true hF rfl ?_
              apply wpIn_exit
              simp only [Exit.then, Exit.inBlock, ↓reduceIte, Nat.reduceEqDiff]
              have hA136 : Hp w0 ([(l2, rc2 .busy none)] :: [row b107 3 [.int .i64 ((((pre2.length : Nat) : Int)) + (1))]] :: R2) w134 := Hp.sel [[(l2, rc2 .busy none)], [row b113 54 j.cells], [row b107 3 [.int .i64 ((((pre2.length : Nat) : Int)) + (1))]]] R2 [0, 2] [1] hA135 rfl
              exact rp_exit hrc2 hA136 (fun w' hA' => ⟨false, rfl, _, ⟨_, rfl⟩, hA'⟩)
            · refine wq_region_plan (fun ⟨_, _, h⟩ => h) rfl 3 [2,3] [0,1,2,3] (fun x => Hq w0 ([(l2, rc2 .busy none)] :: [row b113 54 j.cells] :: [row b107 3 [.int .i64 ((((pre2.length : Nat) : Int)) + (1))]] :: R2) x) (by kernel_rfl) (by kernel_rfl) (Hq.drew (Hp.qp [[(l2, rc2 .busy none)], [row b113 54 j.cells], [row b107 3 [.int .i64 ((((pre2.length : Nat) : Int)) + (1))]]] R2 [0, 1, 2] hA132)) ?_
              have hA137 := Hl.drew hA132
              refine vp_y hF rfl rfl rfl rfl (by decide) _ (fun x hx => y_ld rfl hx rfl 2 rfl rfl nr3_s18) (fun a hF => ?_)
              refine vp_y hF rfl rfl rfl rfl (by decide) _ (fun x hx => y_ldC rfl (Hq.sub hx (List.Subset.trans (List.Subset.trans hGG hG4) (subC (subC (subC (sub0)))))) rfl hCT 0 (by simp) rfl rfl nr3_s18) (fun a hF => ?_)
              refine vp_l rfl rfl rfl (fun K hK => ws_call hF rfl (by decide) cl36_s18 rfl rfl ?_)
              with_reducible refine (rt_within w0 _ ([(l2, rc2 .busy none)] :: [row b113 54 j.cells] :: [row b107 3 [.int .i64 ((((pre2.length : Nat) : Int)) + (1))]] :: R2) cut 0 24 (by decide) (by decide) (by decide) hA137 ).mono ?_
              rintro e' w138 ⟨rfl, hA139⟩
              refine ⟨_, rfl, fun a hF => hK _ _ (fun _ => ?_) ?_⟩
              · exact Hp.qp [[(l2, rc2 .busy none)], [row b113 54 j.cells], [row b107 3 [.int .i64 ((((pre2.length : Nat) : Int)) + (1))]]] R2 [0, 1, 2] hA139
              clear hK K
              replace hA139 : Hp w0 ([(l2, rc2 .busy none)] :: [row b113 54 j.cells] :: [row b107 3 [.int .i64 ((((pre2.length : Nat) : Int)) + (1))]] :: R2) w138 := hA139
              refine vp_ly hF rfl rfl rfl rfl (by decide) _ (y_cmp rfl rfl rfl rfl (gtr_f (by omega))) (fun h => absurd h (by decide)) (fun a hF => ?_)
              refine plan_end ?_
              refine hK42 _ _ ?_; clear  hK42 K42
              refine wq_false hF rfl ?_
              apply wpIn_skip
              simp only [Exit.inBlock]
              have hA140 : Hp w0 ([(l2, rc2 .busy none)] :: [row b107 3 [.int .i64 ((((pre2.length : Nat) : Int)) + (1))]] :: R2) w138 := Hp.sel [[(l2, rc2 .busy none)], [row b113 54 j.cells], [row b107 3 [.int .i64 ((((pre2.length : Nat) : Int)) + (1))]]] R2 [0, 2] [1] hA139 rfl
              exact rp_normal hrc2 hA140 (fun w' hA' => ⟨true, rfl, _, rfl, by rw [List.length_append, List.length_singleton]; exact hA'⟩)
        · rintro e w3 ⟨hret, b, hW⟩
          cases b
          · obtain ⟨_, ⟨km, rfl⟩, hA3⟩ := hW
            refine ⟨hret, .done, some (.exit 2), [row b107 3 [.int .i64 km]] :: ([(l, rc .busy none)] :: [row b35 3 [.int .i64 ((pre.length : Nat) : Int)]] :: [row b46 54 i.cells] :: [row b40 23 (dc i.k)] :: R), by simp, hA3, fun w4 hA4 => ?_⟩
            apply wpIn_exit
            refine hK33 _ _ ?_; clear  hK33 K33
            refine wq_region_lit (fun ⟨_, _, h⟩ => h) rfl ?_
            refine vc_y hF rfl rfl (by decide) _ (y_ld rfl hA4.q rfl 2 rfl rfl nr3_s18) (fun a hF => ?_)
            refine vc_y hF rfl rfl (by decide) _ (y_add rfl rfl rfl (IntWalk.i64_in _ (by omega))) (fun a hF => ?_)
            refine vc_op rfl (fun K hK => hs_store1 hF rfl rfl hA4 rfl rfl 2 rfl (by simp) rfl sz3_s18 (fun w141 hA142 => hK _ _ ?_))
            clear hK K
            replace hA142 : Hp w0 ([row b107 3 [.int .i64 km]] :: [(l, rc .busy none)] :: [row b35 3 [.int .i64 ((((pre.length : Nat) : Int)) + (1))]] :: [row b46 54 i.cells] :: [row b40 23 (dc i.k)] :: R) w141 := hA142
            refine vc_nil ?_
            simp only [Exit.inBlock]
            have hA143 : Hp w0 ([(l, rc .busy none)] :: [row b35 3 [.int .i64 ((((pre.length : Nat) : Int)) + (1))]] :: [row b40 23 (dc i.k)] :: R) w141 := Hp.sel [[row b107 3 [.int .i64 km]], [(l, rc .busy none)], [row b35 3 [.int .i64 ((((pre.length : Nat) : Int)) + (1))]], [row b46 54 i.cells], [row b40 23 (dc i.k)]] R [1, 2, 4] [0, 3] hA142 rfl
            exact rp_normal hrc hA143 (fun w' hA' => ⟨true, rfl, _, ⟨i.k, LastK.next hi, rfl⟩, by rw [List.length_append, List.length_singleton]; exact hA'⟩)
          · obtain ⟨_, rfl, hA3⟩ := hW
            refine ⟨hret, .ready, none, [row b107 3 [.int .i64 (L.length : Int)]] :: ([(l, rc .busy none)] :: [row b35 3 [.int .i64 ((pre.length : Nat) : Int)]] :: [row b46 54 i.cells] :: [row b40 23 (dc i.k)] :: R), by simp, hA3, fun w4 hA4 => ?_⟩
            refine hK33 _ _ ?_; clear  hK33 K33
            refine wq_region_lit (fun ⟨_, _, h⟩ => h) rfl ?_
            refine vc_y hF rfl rfl (by decide) _ (y_ld rfl hA4.q rfl 2 rfl rfl nr3_s18) (fun a hF => ?_)
            refine vc_y hF rfl rfl (by decide) _ (y_add rfl rfl rfl (IntWalk.i64_in _ (by omega))) (fun a hF => ?_)
            refine vc_op rfl (fun K hK => hs_store1 hF rfl rfl hA4 rfl rfl 2 rfl (by simp) rfl sz3_s18 (fun w144 hA145 => hK _ _ ?_))
            clear hK K
            replace hA145 : Hp w0 ([row b107 3 [.int .i64 (L.length : Int)]] :: [(l, rc .busy none)] :: [row b35 3 [.int .i64 ((((pre.length : Nat) : Int)) + (1))]] :: [row b46 54 i.cells] :: [row b40 23 (dc i.k)] :: R) w144 := hA145
            refine vc_nil ?_
            simp only [Exit.inBlock]
            have hA146 : Hp w0 ([(l, rc .busy none)] :: [row b35 3 [.int .i64 ((((pre.length : Nat) : Int)) + (1))]] :: [row b40 23 (dc i.k)] :: R) w144 := Hp.sel [[row b107 3 [.int .i64 (L.length : Int)]], [(l, rc .busy none)], [row b35 3 [.int .i64 ((((pre.length : Nat) : Int)) + (1))]], [row b46 54 i.cells], [row b40 23 (dc i.k)]] R [1, 2, 4] [0, 3] hA145 rfl
            exact rp_normal hrc hA146 (fun w' hA' => ⟨true, rfl, _, ⟨i.k, LastK.next hi, rfl⟩, by rw [List.length_append, List.length_singleton]; exact hA'⟩)
    · rintro e w3 ⟨hret, b, hW⟩
      cases b
      · obtain ⟨_, hf, _⟩ := hW
        exact hf.elim
      obtain ⟨_, ⟨wk, hwk, rfl⟩, hA3⟩ := hW
      refine ⟨hret, .ready, none, [row b35 3 [.int .i64 (L.length : Int)]] :: [row b40 23 (dc wk)] :: ([row b4 4 [.bool false]] :: [(d, .deferred (some []))] :: G), by simp, hA3, fun w4 hA4 => ?_⟩
      rw [hG] at hA4
      have hGs : G ⊆ [row b35 3 [.int .i64 ((L.length : Nat) : Int)]] :: [row b40 23 (dc wk)] :: [row b4 4 [.bool false]] :: [(d, .deferred (some []))] :: [row b30 70 [.func (.func 66) #[] #[.pointer (some ⟨tb, 0, none⟩)]]] :: [row b1 3 [.int .i64 cut]] :: [row tb 45 [top, sl]] :: [row b23 45 [top, sl]] :: X :: [] := by rw [hG]; exact List.subset_cons_of_subset _ (List.subset_cons_of_subset _ (List.subset_cons_of_subset _ (List.subset_cons_of_subset _ (List.Subset.refl _))))
      refine hK14 _ _ ?_; clear  hK14 K14
      apply wq_seq_k; intro K43 hK43
      apply wq_seq_k; intro K44 hK44
      refine wq_region_plan (fun ⟨_, _, (h : _ ∧ _)⟩ => nomatch h.1) rfl 3 [2,3] [0,1,2,3] (fun x => Hq w0 ([row b35 3 [.int .i64 ((L.length : Nat) : Int)]] :: [row b40 23 (dc wk)] :: [row b4 4 [.bool false]] :: [(d, .deferred (some []))] :: [row b30 70 [.func (.func 66) #[] #[.pointer (some ⟨tb, 0, none⟩)]]] :: [row b1 3 [.int .i64 cut]] :: [row tb 45 [top, sl]] :: [row b23 45 [top, sl]] :: X :: []) x) (by kernel_rfl) (by kernel_rfl) (Hq.drew (Hp.qp [[row b35 3 [.int .i64 ((L.length : Nat) : Int)]], [row b40 23 (dc wk)], [row b4 4 [.bool false]], [(d, .deferred (some []))], [row b30 70 [.func (.func 66) #[] #[.pointer (some ⟨tb, 0, none⟩)]]], [row b1 3 [.int .i64 cut]], [row tb 45 [top, sl]], [row b23 45 [top, sl]], X] [] [0, 1, 2, 3, 4, 5, 6, 7, 8] hA4)) ?_
      have hA147 := Hl.drew hA4
      refine vp_y hF rfl rfl rfl rfl (by decide) _ (fun x hx => y_ld rfl hx rfl 0 rfl rfl nr3_s18) (fun a hF => ?_)
      refine vp_y hF rfl rfl rfl rfl (by decide) _ (fun x hx => y_ldRow (new := [top, sl]) rfl hx rfl 7 rfl rw45_s18 (Nat.le_of_ble_eq_true rfl) rfl) (fun a hF => ?_)
      refine vp_l rfl rfl rfl (fun K hK => ws_call hF rfl (by decide) cl20_s18 rfl rfl ?_)
      with_reducible refine (rt_len w0 _ ([row b35 3 [.int .i64 ((L.length : Nat) : Int)]] :: [row b40 23 (dc wk)] :: [row b4 4 [.bool false]] :: [(d, .deferred (some []))] :: [row b30 70 [.func (.func 66) #[] #[.pointer (some ⟨tb, 0, none⟩)]]] :: [row b1 3 [.int .i64 cut]] :: [row tb 45 [top, sl]] :: [row b23 45 [top, sl]] :: X :: []) G hGs L top sl hTVG hA147 ).mono ?_
      rintro e' w148 ⟨rfl, hA149⟩
      refine ⟨_, rfl, fun a hF => hK _ _ (fun _ => ?_) ?_⟩
      · exact Hp.qp [[row b35 3 [.int .i64 ((L.length : Nat) : Int)]], [row b40 23 (dc wk)], [row b4 4 [.bool false]], [(d, .deferred (some []))], [row b30 70 [.func (.func 66) #[] #[.pointer (some ⟨tb, 0, none⟩)]]], [row b1 3 [.int .i64 cut]], [row tb 45 [top, sl]], [row b23 45 [top, sl]], X] [] [0, 1, 2, 3, 4, 5, 6, 7, 8] hA149
      clear hK K
      replace hA149 : Hp w0 ([row b35 3 [.int .i64 ((L.length : Nat) : Int)]] :: [row b40 23 (dc wk)] :: [row b4 4 [.bool false]] :: [(d, .deferred (some []))] :: [row b30 70 [.func (.func 66) #[] #[.pointer (some ⟨tb, 0, none⟩)]]] :: [row b1 3 [.int .i64 cut]] :: [row tb 45 [top, sl]] :: [row b23 45 [top, sl]] :: X :: []) w148 := hA149
      refine vp_ly hF rfl rfl rfl rfl (by decide) _ (y_cmp rfl rfl rfl rfl (neq_f (by omega))) (fun h => absurd h (by decide)) (fun a hF => ?_)
      refine plan_end ?_
      refine hK44 _ _ ?_; clear  hK44 K44
      refine wq_false hF rfl ?_
      apply wpIn_skip
      refine hK43 _ _ ?_; clear  hK43 K43
      apply wq_seq_k; intro K45 hK45
      apply wq_seq_k; intro K46 hK46
      refine wq_region_lit (fun ⟨_, _, (h : _ ∧ _)⟩ => nomatch h.1) rfl ?_
      refine vc_y hF rfl rfl (by decide) _ (y_ld rfl hA149.q rfl 4 rfl rfl nr70_s18) (fun a hF => ?_)
      refine vc_nil ?_
      refine hK46 _ _ ?_; clear  hK46 K46
      apply wpIn_block
      have hA150 : Hp w0 ([row b4 4 [.bool false]] :: [row b35 3 [.int .i64 ((L.length : Nat) : Int)]] :: [row b40 23 (dc wk)] :: [(d, .deferred (some []))] :: [row b30 70 [.func (.func 66) #[] #[.pointer (some ⟨tb, 0, none⟩)]]] :: [row b1 3 [.int .i64 cut]] :: [row tb 45 [top, sl]] :: [row b23 45 [top, sl]] :: X :: []) w148 := Hp.ord [[row b35 3 [.int .i64 ((L.length : Nat) : Int)]], [row b40 23 (dc wk)], [row b4 4 [.bool false]], [(d, .deferred (some []))], [row b30 70 [.func (.func 66) #[] #[.pointer (some ⟨tb, 0, none⟩)]]], [row b1 3 [.int .i64 cut]], [row tb 45 [top, sl]], [row b23 45 [top, sl]], X] [] [2, 0, 1, 3, 4, 5, 6, 7, 8] hA149 rfl
      refine wq_range hF rfl cl66_s18 hA150 (fun d3 l3 rc3 w1 hrc3 hA1 => ?_)
      have hA2 : Hp w0 (([(l3, rc3 .ready none)] :: [row b4 4 [.bool false]] :: []) ++ ([row b35 3 [.int .i64 ((L.length : Nat) : Int)]] :: [row b40 23 (dc wk)] :: [(d, .deferred (some []))] :: [(d3, .deferred (some []))] :: G)) w1 := by
        rw [hG]
        exact Hp.ord [[(l3, rc3 .ready none)], [(d3, .deferred (some []))], [row b4 4 [.bool false]], [row b35 3 [.int .i64 ((L.length : Nat) : Int)]], [row b40 23 (dc wk)], [(d, .deferred (some []))]] _ [0, 2, 3, 4, 5, 1] hA1 rfl
      have hGR3 : G ⊆ ([row b35 3 [.int .i64 ((L.length : Nat) : Int)]] :: [row b40 23 (dc wk)] :: [(d, .deferred (some []))] :: [(d3, .deferred (some []))] :: G) := List.subset_cons_of_subset _ (List.subset_cons_of_subset _ (List.subset_cons_of_subset _ (List.subset_cons_of_subset _ (List.Subset.refl _))))
      refine (rt_items1 (JS := fun pre S => pre = [] ∧ S = [(l3, rc3 .ready none)] :: [row b4 4 [.bool false]] :: []) (JX := fun S => S = [(l3, rc3 .done (some .ret))] :: [row b4 4 [.bool true]] :: []) (G := G) hTVG ?_ ([row b35 3 [.int .i64 ((L.length : Nat) : Int)]] :: [row b40 23 (dc wk)] :: [(d, .deferred (some []))] :: [(d3, .deferred (some []))] :: G) _ hGR3 hTB ⟨rfl, rfl⟩ hA2).mono ?_
      · rintro pre i post hL hi w R S hG3 ⟨_, rfl⟩ hA
        have him : i ∈ L := by rw [← hL]; exact List.mem_append_right _ (List.mem_cons_self ..)
        have hgl := getL_mem hris him
        clear hA1 hA2
        refine hs_round hrc3 hF (p := 127) (by decide) hA (fun a hF => ?_)
        refine wq_region_lit (fun ⟨_, _, h⟩ => h) rfl ?_
        refine vc_op rfl (fun K hK => hs_alloc hF rfl (by decide) rfl hA (zr54_s18) (fun b151 w152 a hb151 hF hA153 => hK _ _ ?_))
        clear hK K
        replace hA153 : Hp w0 ([row b151 54 [.int .u8 0, .int .u8 0, .int .u8 0, .int .u8 0, .int .u8 0, .int .u8 0, .int .u8 0, .int .u8 0, .int .u8 0, .int .u8 0, .int .u8 0, .int .u8 0, .int .u8 0, .int .u8 0, .int .u8 0, .int .u8 0, .int .u8 0, .int .u8 0, .int .u8 0, .int .u8 0, .int .u8 0, .int .u8 0, .int .u8 0, .int .u8 0, .int .u8 0, .int .u8 0, .int .u8 0, .int .u8 0, .int .u8 0, .int .u8 0, .int .u8 0, .int .u8 0, .int .i64 0, .int .u8 0, .int .u8 0, .int .u8 0, .int .u8 0, .int .u8 0, .int .u8 0, .int .u8 0, .int .u8 0, .int .u8 0, .int .u8 0, .int .u8 0, .int .u8 0, .int .u8 0, .int .u8 0, .int .u8 0, .int .u8 0, .int .u8 0, .int .u8 0, .int .u8 0, .int .u8 0, .int .u8 0, .int .u8 0, .int .u8 0, .int .u8 0, .int .u8 0, .int .u8 0, .int .u8 0, .int .u8 0, .int .u8 0, .int .u8 0, .int .u8 0, .int .u8 0]] :: [(l3, rc3 .ready none)] :: [row b4 4 [.bool false]] :: R) w152 := hA153
        refine vc_op rfl (fun K hK => hs_storeAll (new := i.cells) hF rfl rfl hA153 rfl rfl 0 rfl (by rw [Itm.len hi]; rfl) (Itm.one i) sz54_s18 (fun w154 hA155 => hK _ _ ?_))
        clear hK K
        replace hA155 : Hp w0 ([row b151 54 i.cells] :: [(l3, rc3 .ready none)] :: [row b4 4 [.bool false]] :: R) w154 := hA155
        refine vc_nil ?_
        have hA156 : Hp w0 ([(l3, rc3 .ready none)] :: [row b151 54 i.cells] :: [row b4 4 [.bool false]] :: R) w154 := Hp.ord [[row b151 54 i.cells], [(l3, rc3 .ready none)], [row b4 4 [.bool false]]] R [1, 0, 2] hA155 rfl
        refine ⟨[row b151 54 i.cells] :: [row b4 4 [.bool false]] :: R, hA156, fun w157 hA158 => ?_⟩
        replace hA158 : Hp w0 ([(l3, rc3 .busy none)] :: [row b151 54 i.cells] :: [row b4 4 [.bool false]] :: R) w157 := hA158
        apply wpIn_block
        apply wq_seq_k; intro K47 hK47
        refine wq_region_lit (fun ⟨_, _, h⟩ => h) rfl ?_
        refine vc_y hF rfl rfl (by decide) _ (y_ldRowC (new := [top, sl]) rfl (Hq.sub hA158.q (List.Subset.trans hG3 (subC (subC (subC (sub0)))))) rfl hT8 0 (by simp) rfl rfl rw45_s18) (fun a hF => ?_)
        refine vc_y hF rfl rfl (by decide) _ (y_field rfl Tryd.underlying54 rfl sz23_s18 (by decide) rfl (rfl : (⟨_, 0 + _, none⟩ : Addr) = ⟨_, 0, none⟩)) (fun a hF => ?_)
        refine vc_y hF rfl rfl (by decide) _ (y_ldRow rfl hA158.q rfl 1 rfl rw23_s18 (itmC_le hi _ _ (by decide)) (itmC_key hi)) (fun a hF => ?_)
        refine vc_op rfl (fun K hK => ws_call hF rfl (by decide) cl34_s18 rfl rfl ?_)
        with_reducible refine (rt_get w0 _ ([(l3, rc3 .busy none)] :: [row b151 54 i.cells] :: [row b4 4 [.bool false]] :: R) G (List.Subset.trans hG3 (subC (subC (subC (sub0))))) L top sl hTVG i.k hi.k hA158 ).mono ?_
        rintro e' w159 ⟨rfl, hA160⟩
        refine ⟨_, rfl, fun a hF => hK _ _ ?_⟩
        clear hK K
        replace hA160 : Hp w0 ([(l3, rc3 .busy none)] :: [row b151 54 i.cells] :: [row b4 4 [.bool false]] :: R) w159 := hA160
        rw [getCt_some hgl, getCh_some hgl, show (getL L i.k).isSome = true from by rw [hgl]; rfl] at hF
        refine vc_y hF rfl rfl (by decide) _ (y_move rfl rfl) (fun a hF => ?_)
        refine vc_y hF rfl rfl (by decide) _ (y_extract (v := .agg (.int .i64 i.ct :: dc i.ch).toArray) rfl rfl rfl) (fun a hF => ?_)
        refine vc_y hF rfl rfl (by decide) _ (y_extract (v := .bool true) rfl rfl rfl) (fun a hF => ?_)
        refine vc_op rfl (fun K hK => hs_alloc hF rfl (by decide) rfl hA160 (zr25_s18) (fun b161 w162 a hb161 hF hA163 => hK _ _ ?_))
        clear hK K
        replace hA163 : Hp w0 ([row b161 25 [.int .i64 0, .int .u8 0, .int .u8 0, .int .u8 0, .int .u8 0, .int .u8 0, .int .u8 0, .int .u8 0, .int .u8 0, .int .u8 0, .int .u8 0, .int .u8 0, .int .u8 0, .int .u8 0, .int .u8 0, .int .u8 0, .int .u8 0, .int .u8 0, .int .u8 0, .int .u8 0, .int .u8 0, .int .u8 0, .int .u8 0, .int .u8 0, .int .u8 0, .int .u8 0, .int .u8 0, .int .u8 0, .int .u8 0, .int .u8 0, .int .u8 0, .int .u8 0, .int .u8 0]] :: [(l3, rc3 .busy none)] :: [row b151 54 i.cells] :: [row b4 4 [.bool false]] :: R) w162 := hA163
        refine vc_op rfl (fun K hK => hs_storeAll (new := .int .i64 i.ct :: dc i.ch) hF rfl rfl hA163 rfl rfl 0 rfl (by rw [List.length_cons, dc_length, hi.ch]; rfl) (ent_one _ _) sz25_s18 (fun w164 hA165 => hK _ _ ?_))
        clear hK K
        replace hA165 : Hp w0 ([row b161 25 (.int .i64 i.ct :: dc i.ch)] :: [(l3, rc3 .busy none)] :: [row b151 54 i.cells] :: [row b4 4 [.bool false]] :: R) w164 := hA165
        refine vc_y hF rfl rfl (by decide) _ (y_assign rfl rfl) (fun a hF => ?_)
        refine vc_nil ?_
        refine hK47 _ _ ?_; clear  hK47 K47
        apply wq_seq_k; intro K48 hK48
        refine wq_region_lit (fun ⟨_, _, h⟩ => h) rfl ?_
        refine vc_y hF rfl rfl (by decide) _ (y_move rfl rfl) (fun a hF => ?_)
        refine vc_op rfl (fun K hK => hs_store1 hF rfl rfl hA165 rfl rfl 3 rfl (by simp) rfl sz4_s18 (fun w166 hA167 => hK _ _ ?_))
        clear hK K
        replace hA167 : Hp w0 ([row b161 25 (.int .i64 i.ct :: dc i.ch)] :: [(l3, rc3 .busy none)] :: [row b151 54 i.cells] :: [row b4 4 [.bool true]] :: R) w166 := hA167
        refine vc_nil ?_
        refine hK48 _ _ ?_; clear  hK48 K48
        apply wpIn_ret
        simp only [Exit.inBlock]
        have hA168 : Hp w0 ([(l3, rc3 .busy none)] :: [row b4 4 [.bool true]] :: R) w166 := Hp.sel [[row b161 25 (.int .i64 i.ct :: dc i.ch)], [(l3, rc3 .busy none)], [row b151 54 i.cells], [row b4 4 [.bool true]]] R [1, 3] [0, 2] hA167 rfl
        exact rp_ret hrc3 hA168 (fun w' hA' => ⟨false, rfl, _, rfl, hA'⟩)
      · rintro e w3 ⟨hret, b, hW⟩
        cases b
        · obtain ⟨_, rfl, hA3⟩ := hW
          refine ⟨hret, .done, some .ret, [row b4 4 [.bool true]] :: ([row b35 3 [.int .i64 ((L.length : Nat) : Int)]] :: [row b40 23 (dc wk)] :: [(d, .deferred (some []))] :: [(d3, .deferred (some []))] :: G), by simp, hA3, fun w4 hA4 => ?_⟩
          rw [hG] at hA4
          apply wpIn_ret
          simp only [Exit.then, Exit.inBlock]
          refine vq_leave hF ?_
          have hA169 : Hp w0 ([(d3, .deferred (some []))] :: [row b4 4 [.bool true]] :: [row b35 3 [.int .i64 ((L.length : Nat) : Int)]] :: [row b40 23 (dc wk)] :: [(d, .deferred (some []))] :: [row b30 70 [.func (.func 66) #[] #[.pointer (some ⟨tb, 0, none⟩)]]] :: [row b1 3 [.int .i64 cut]] :: [row tb 45 [top, sl]] :: [row b23 45 [top, sl]] :: X :: []) w4 := Hp.ord [[row b4 4 [.bool true]], [row b35 3 [.int .i64 ((L.length : Nat) : Int)]], [row b40 23 (dc wk)], [(d, .deferred (some []))], [(d3, .deferred (some []))], [row b30 70 [.func (.func 66) #[] #[.pointer (some ⟨tb, 0, none⟩)]]], [row b1 3 [.int .i64 cut]], [row tb 45 [top, sl]], [row b23 45 [top, sl]], X] [] [4, 0, 1, 2, 3, 5, 6, 7, 8, 9] hA4 rfl
          refine leave_mark hA169 (fun w170 hA171 => ?_)
          replace hA171 : Hp w0 ([(d3, .deferred none)] :: [row b4 4 [.bool true]] :: [row b35 3 [.int .i64 ((L.length : Nat) : Int)]] :: [row b40 23 (dc wk)] :: [(d, .deferred (some []))] :: [row b30 70 [.func (.func 66) #[] #[.pointer (some ⟨tb, 0, none⟩)]]] :: [row b1 3 [.int .i64 cut]] :: [row tb 45 [top, sl]] :: [row b23 45 [top, sl]] :: X :: []) w170 := hA171
          have hA172 : Hp w0 ([(d, .deferred (some []))] :: [(d3, .deferred none)] :: [row b4 4 [.bool true]] :: [row b35 3 [.int .i64 ((L.length : Nat) : Int)]] :: [row b40 23 (dc wk)] :: [row b30 70 [.func (.func 66) #[] #[.pointer (some ⟨tb, 0, none⟩)]]] :: [row b1 3 [.int .i64 cut]] :: [row tb 45 [top, sl]] :: [row b23 45 [top, sl]] :: X :: []) w170 := Hp.ord [[(d3, .deferred none)], [row b4 4 [.bool true]], [row b35 3 [.int .i64 ((L.length : Nat) : Int)]], [row b40 23 (dc wk)], [(d, .deferred (some []))], [row b30 70 [.func (.func 66) #[] #[.pointer (some ⟨tb, 0, none⟩)]]], [row b1 3 [.int .i64 cut]], [row tb 45 [top, sl]], [row b23 45 [top, sl]], X] [] [4, 0, 1, 2, 3, 5, 6, 7, 8, 9] hA171 rfl
          refine leave_mark hA172 (fun w173 hA174 => ?_)
          replace hA174 : Hp w0 ([(d, .deferred none)] :: [(d3, .deferred none)] :: [row b4 4 [.bool true]] :: [row b35 3 [.int .i64 ((L.length : Nat) : Int)]] :: [row b40 23 (dc wk)] :: [row b30 70 [.func (.func 66) #[] #[.pointer (some ⟨tb, 0, none⟩)]]] :: [row b1 3 [.int .i64 cut]] :: [row tb 45 [top, sl]] :: [row b23 45 [top, sl]] :: X :: []) w173 := hA174
          refine leave_retc hF Tryd.results6 hA174.q rfl 2 rfl nr4_s18 ?_
          exact ⟨rfl, hA174.at0⟩
        · obtain ⟨_, ⟨hLn0, rfl⟩, hA3⟩ := hW
          refine ⟨hret, .ready, none, [row b4 4 [.bool false]] :: ([row b35 3 [.int .i64 ((L.length : Nat) : Int)]] :: [row b40 23 (dc wk)] :: [(d, .deferred (some []))] :: [(d3, .deferred (some []))] :: G), by simp, hA3, fun w4 hA4 => ?_⟩
          rw [hG] at hA4
          have hGs3 : G ⊆ [row b4 4 [.bool false]] :: [row b35 3 [.int .i64 ((L.length : Nat) : Int)]] :: [row b40 23 (dc wk)] :: [(d, .deferred (some []))] :: [(d3, .deferred (some []))] :: [row b30 70 [.func (.func 66) #[] #[.pointer (some ⟨tb, 0, none⟩)]]] :: [row b1 3 [.int .i64 cut]] :: [row tb 45 [top, sl]] :: [row b23 45 [top, sl]] :: X :: [] := by rw [hG]; exact List.subset_cons_of_subset _ (List.subset_cons_of_subset _ (List.subset_cons_of_subset _ (List.subset_cons_of_subset _ (List.subset_cons_of_subset _ (List.Subset.refl _)))))
          refine hK45 _ _ ?_; clear  hK45 K45
          apply wq_seq_k; intro K49 hK49
          refine wq_region_lit (fun ⟨_, _, (h : _ ∧ _)⟩ => nomatch h.1) rfl ?_
          refine vc_y hF rfl rfl (by decide) _ (y_ldRow (new := [top, sl]) rfl hA4.q rfl 8 rfl rw45_s18 (Nat.le_of_ble_eq_true rfl) rfl) (fun a hF => ?_)
          refine vc_op rfl (fun K hK => ws_call hF rfl (by decide) cl20_s18 rfl rfl ?_)
          with_reducible refine (rt_len w0 _ ([row b4 4 [.bool false]] :: [row b35 3 [.int .i64 ((L.length : Nat) : Int)]] :: [row b40 23 (dc wk)] :: [(d, .deferred (some []))] :: [(d3, .deferred (some []))] :: [row b30 70 [.func (.func 66) #[] #[.pointer (some ⟨tb, 0, none⟩)]]] :: [row b1 3 [.int .i64 cut]] :: [row tb 45 [top, sl]] :: [row b23 45 [top, sl]] :: X :: []) G hGs3 L top sl hTVG hA4 ).mono ?_
          rintro e' w175 ⟨rfl, hA176⟩
          refine ⟨_, rfl, fun a hF => hK _ _ ?_⟩
          clear hK K
          replace hA176 : Hp w0 ([row b4 4 [.bool false]] :: [row b35 3 [.int .i64 ((L.length : Nat) : Int)]] :: [row b40 23 (dc wk)] :: [(d, .deferred (some []))] :: [(d3, .deferred (some []))] :: [row b30 70 [.func (.func 66) #[] #[.pointer (some ⟨tb, 0, none⟩)]]] :: [row b1 3 [.int .i64 cut]] :: [row tb 45 [top, sl]] :: [row b23 45 [top, sl]] :: X :: []) w175 := hA176
          rw [hLn0] at hF
          refine vc_y hF rfl rfl (by decide) _ (y_cmp (c := true) rfl rfl rfl rfl (by rfl)) (fun a hF => ?_)
          refine vc_op rfl (fun K hK => hs_store1 hF rfl rfl hA176 rfl rfl 0 rfl (by simp) rfl sz4_s18 (fun w177 hA178 => hK _ _ ?_))
          clear hK K
          replace hA178 : Hp w0 ([row b4 4 [.bool true]] :: [row b35 3 [.int .i64 ((L.length : Nat) : Int)]] :: [row b40 23 (dc wk)] :: [(d, .deferred (some []))] :: [(d3, .deferred (some []))] :: [row b30 70 [.func (.func 66) #[] #[.pointer (some ⟨tb, 0, none⟩)]]] :: [row b1 3 [.int .i64 cut]] :: [row tb 45 [top, sl]] :: [row b23 45 [top, sl]] :: X :: []) w177 := hA178
          refine vc_nil ?_
          refine hK49 _ _ ?_; clear  hK49 K49
          apply wpIn_ret
          refine vq_leave hF ?_
          have hA179 : Hp w0 ([(d3, .deferred (some []))] :: [row b4 4 [.bool true]] :: [row b35 3 [.int .i64 ((L.length : Nat) : Int)]] :: [row b40 23 (dc wk)] :: [(d, .deferred (some []))] :: [row b30 70 [.func (.func 66) #[] #[.pointer (some ⟨tb, 0, none⟩)]]] :: [row b1 3 [.int .i64 cut]] :: [row tb 45 [top, sl]] :: [row b23 45 [top, sl]] :: X :: []) w177 := Hp.ord [[row b4 4 [.bool true]], [row b35 3 [.int .i64 ((L.length : Nat) : Int)]], [row b40 23 (dc wk)], [(d, .deferred (some []))], [(d3, .deferred (some []))], [row b30 70 [.func (.func 66) #[] #[.pointer (some ⟨tb, 0, none⟩)]]], [row b1 3 [.int .i64 cut]], [row tb 45 [top, sl]], [row b23 45 [top, sl]], X] [] [4, 0, 1, 2, 3, 5, 6, 7, 8, 9] hA178 rfl
          refine leave_mark hA179 (fun w180 hA181 => ?_)
          replace hA181 : Hp w0 ([(d3, .deferred none)] :: [row b4 4 [.bool true]] :: [row b35 3 [.int .i64 ((L.length : Nat) : Int)]] :: [row b40 23 (dc wk)] :: [(d, .deferred (some []))] :: [row b30 70 [.func (.func 66) #[] #[.pointer (some ⟨tb, 0, none⟩)]]] :: [row b1 3 [.int .i64 cut]] :: [row tb 45 [top, sl]] :: [row b23 45 [top, sl]] :: X :: []) w180 := hA181
          have hA182 : Hp w0 ([(d, .deferred (some []))] :: [(d3, .deferred none)] :: [row b4 4 [.bool true]] :: [row b35 3 [.int .i64 ((L.length : Nat) : Int)]] :: [row b40 23 (dc wk)] :: [row b30 70 [.func (.func 66) #[] #[.pointer (some ⟨tb, 0, none⟩)]]] :: [row b1 3 [.int .i64 cut]] :: [row tb 45 [top, sl]] :: [row b23 45 [top, sl]] :: X :: []) w180 := Hp.ord [[(d3, .deferred none)], [row b4 4 [.bool true]], [row b35 3 [.int .i64 ((L.length : Nat) : Int)]], [row b40 23 (dc wk)], [(d, .deferred (some []))], [row b30 70 [.func (.func 66) #[] #[.pointer (some ⟨tb, 0, none⟩)]]], [row b1 3 [.int .i64 cut]], [row tb 45 [top, sl]], [row b23 45 [top, sl]], X] [] [4, 0, 1, 2, 3, 5, 6, 7, 8, 9] hA181 rfl
          refine leave_mark hA182 (fun w183 hA184 => ?_)
          replace hA184 : Hp w0 ([(d, .deferred none)] :: [(d3, .deferred none)] :: [row b4 4 [.bool true]] :: [row b35 3 [.int .i64 ((L.length : Nat) : Int)]] :: [row b40 23 (dc wk)] :: [row b30 70 [.func (.func 66) #[] #[.pointer (some ⟨tb, 0, none⟩)]]] :: [row b1 3 [.int .i64 cut]] :: [row tb 45 [top, sl]] :: [row b23 45 [top, sl]] :: X :: []) w183 := hA184
          refine leave_retc hF Tryd.results6 hA184.q rfl 2 rfl nr4_s18 ?_
          exact ⟨rfl, hA184.at0⟩
  · refine wq_region_lit (fun ⟨_, _, (h : _ ∧ _)⟩ => nomatch h.1) rfl ?_
    refine vc_y hF rfl rfl (by decide) _ (y_move rfl rfl) (fun a hF => ?_)
    refine vc_y hF rfl rfl (by decide) _ (y_cmp rfl rfl rfl rfl (neq_t (by omega))) (fun a hF => ?_)
    refine vc_nil ?_
    refine hK8 _ _ ?_; clear  hK8 K8
    refine wq_true hF rfl ?_
    apply wq_seq_k; intro K50 hK50
    refine wq_region_lit (fun ⟨_, _, (h : _ ∧ _)⟩ => nomatch h.1) rfl ?_
    refine vc_op rfl (fun K hK => hs_store1 hF rfl rfl hA27 rfl rfl 6 rfl (by simp) rfl sz4_s18 (fun w185 hA186 => hK _ _ ?_))
    clear hK K
    replace hA186 : Hp w0 ([row b23 45 [top, sl]] :: X :: V1 :: [row b12 45 [top1, sl1]] :: X1 :: [row b7 54 (cel Itm.cells [i9, i5])] :: [row b4 4 [.bool true]] :: [row b1 3 [.int .i64 cut]] :: []) w185 := hA186
    refine vc_nil ?_
    refine hK50 _ _ ?_; clear  hK50 K50
    apply wpIn_ret
    simp only [Exit.then]
    refine vq_leave hF ?_
    refine leave_retc hF Tryd.results6 hA186.q rfl 6 rfl nr4_s18 ?_
    exact ⟨rfl, hA186.at0⟩
end Go.Proofs.YtpomngkcfbnjoaaDoor
