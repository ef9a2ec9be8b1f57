/- few, short, stranger, sameTexts. -/
import Derived.Test.YtpomngkcfbnjoaaDoorSp4
import Derived.Test.YtpomngkcfbnjoaaDoorKb
namespace Go.Proofs.YtpomngkcfbnjoaaDoor
open Go.RowKit Go.Dk

def strangerL : List UInt8 := 165 :: 90 :: 165 :: List.replicate 29 0
theorem sp_build3 (w : World) : (Instr.build 23 #[(0, .int .u8 165), (1, .int .u8 90), (2, .int .u8 165)]).run Tryd.prog w = .ok (.agg (dc strangerL).toArray) w := by kernel_rfl
def txIn (w0 : World) (R : List Seg) (t : TxX) : Prop := ∃ A c, t.v = .slice A t.l.length c ∧ Rd w0 R A t.l
theorem txOk_in {w0 : World} {R : List Seg} {ts : List TxX} (h : ∀ t ∈ ts, t.Ok w0) (hR : txS ts ∈ R) : ∀ t ∈ ts, txIn w0 R t := fun t ht => by
  obtain ⟨A, c, e, h1⟩ := h t ht
  refine ⟨A, c, e, h1.monoF (fun r hr => ?_)⟩
  rw [List.flatten_cons, List.flatten_nil, List.append_nil] at hr
  exact List.mem_flatten.2 ⟨_, hR, List.mem_flatten.2 ⟨_, List.mem_map_of_mem ht, hr⟩⟩
theorem TxsS.oks {w0 : World} {ts : List TxX} {L : List (List UInt8)} {tv : Value} {XL : Seg} (h : TxsS ts L tv XL) : ∀ t ∈ ts, t.Ok w0 := fun t ht => by
  obtain ⟨_, A, c, e, _, h1⟩ := (h.bufs t ht).rd (w0 := w0) (R := [t.X]) (List.mem_cons_self ..)
  exact ⟨A, c, e, h1⟩
theorem nr26_s6 : notRow Tryd.prog 26 = true := by kernel_rfl
theorem nr59_s6 : notRow Tryd.prog 59 = true := by kernel_rfl
theorem rw23_s6 : isRow Tryd.prog 23 32 = true := by kernel_rfl
theorem rw28_s6 : isRow Tryd.prog 28 67 = true := by kernel_rfl
theorem sz23_s6 : (Tryd.prog.info? 23).map (·.size) = some 32 := by kernel_rfl
theorem sz26_s6 : (Tryd.prog.info? 26).map (·.size) = some 1 := by kernel_rfl
theorem sz28_s6 : (Tryd.prog.info? 28).map (·.size) = some 67 := by kernel_rfl
theorem sz59_s6 : (Tryd.prog.info? 59).map (·.size) = some 1 := by kernel_rfl
theorem cl27_s6 : CallsTo Tryd.prog 27 := ⟨_, Tryd.func27, by kernel_rfl, by kernel_rfl⟩
theorem cl38_s6 : CallsTo Tryd.prog 38 := ⟨_, Tryd.func38, by kernel_rfl, by kernel_rfl⟩

theorem zr23_s6 : zeroIs Tryd.prog 23 (.agg (dc (List.replicate 32 0)).toArray) := by unfold zeroIs; kernel_rfl
theorem zr28_s6 : zeroIs Tryd.prog 28 (.agg ([.bool false, .int .i64 0, .int .u8 0, .int .u8 0, .int .u8 0, .int .u8 0, .int .u8 0, .int .u8 0, .int .u8 0, .int .u8 0, .int .u8 0, .int .u8 0, .int .u8 0, .int .u8 0, .int .u8 0, .int .u8 0, .int .u8 0, .int .u8 0, .int .u8 0, .int .u8 0, .int .u8 0, .int .u8 0, .int .u8 0, .int .u8 0, .int .u8 0, .int .u8 0, .int .u8 0, .int .u8 0, .int .u8 0, .int .u8 0, .int .u8 0, .int .u8 0, .int .u8 0, .int .u8 0, .int .u8 0, .int .u8 0, .int .u8 0, .int .u8 0, .int .u8 0, .int .u8 0, .int .u8 0, .int .u8 0, .int .u8 0, .int .u8 0, .int .u8 0, .int .u8 0, .int .u8 0, .int .u8 0, .int .u8 0, .int .u8 0, .int .u8 0, .int .u8 0, .int .u8 0, .int .u8 0, .int .u8 0, .int .u8 0, .int .u8 0, .int .u8 0, .int .u8 0, .int .u8 0, .int .u8 0, .int .u8 0, .int .u8 0, .int .u8 0, .int .u8 0, .int .u8 0, .slice none 0 0] : List Value).toArray) := by unfold zeroIs; kernel_rfl

set_option maxRecDepth 100000 in
set_option maxHeartbeats 2000000 in
theorem sp_few (w0 w : World) (R : List Seg) (A : Option Addr) (n c : Nat) (hn : n ≤ c) (hA : Hp w0 R w) : Calls Tryd.prog 38 #[.slice A n c, .int .i64 300] w fun e w' => e = .returned (.slice A (min n 300) c) ∧ Hp w0 R w' := by
  refine vc_enter Tryd.func38 rfl Tryd.ntmps38 (Nat.le_of_ble_eq_true rfl) (fun a hF => ?_)
  apply wp_seq_k; intro K1 hK1
  refine wp_region_lit ?_
  refine vc_y hF rfl rfl (by decide) _ (y_assign rfl rfl) (fun a hF => ?_)
  refine vc_nil ?_
  refine hK1 _ _ ?_; clear  hK1 K1
  apply wp_seq_k; intro K2 hK2
  apply wp_seq_k; intro K3 hK3
  by_cases hgt : 300 < n
  · refine wp_region_lit ?_
    refine vc_y hF rfl rfl (by decide) _ (y_move rfl rfl) (fun a hF => ?_)
    refine vc_y hF rfl rfl (by decide) _ (y_lenSl rfl Tryd.underlying26 rfl rfl) (fun a hF => ?_)
    refine vc_y hF rfl rfl (by decide) _ (y_move rfl rfl) (fun a hF => ?_)
    refine vc_y hF rfl rfl (by decide) _ (y_cmp rfl rfl rfl rfl (gtr_t (by omega))) (fun a hF => ?_)
    refine vc_nil ?_
    refine hK3 _ _ ?_; clear  hK3 K3
    refine vc_true hF rfl ?_
    apply wp_seq_k; intro K4 hK4
    refine wp_region_lit ?_
    refine vc_y hF rfl rfl (by decide) _ (y_move rfl rfl) (fun a hF => ?_)
    refine vc_y hF rfl rfl (by decide) _ (y_move rfl rfl) (fun a hF => ?_)
    refine vc_y hF rfl rfl (by decide) _ (y_slice rfl Tryd.underlying26 sz23_s6 rfl (.none 0) (.some rfl (rfl : (300 : Int) = ((300 : Nat) : Int))) (Nat.zero_le _) (show 300 ≤ c by omega) slice_to) (fun a hF => ?_)
    refine vc_y hF rfl rfl (by decide) _ (y_assign rfl rfl) (fun a hF => ?_)
    refine vc_nil ?_
    refine hK4 _ _ ?_; clear  hK4 K4
    apply wp_ret
    simp only [Exit.then]
    refine vc_ret1 hF Tryd.results38 rfl ?_
    exact ⟨by rw [show min n 300 = 300 by omega], hA⟩
  · refine wp_region_lit ?_
    refine vc_y hF rfl rfl (by decide) _ (y_move rfl rfl) (fun a hF => ?_)
    refine vc_y hF rfl rfl (by decide) _ (y_lenSl rfl Tryd.underlying26 rfl rfl) (fun a hF => ?_)
    refine vc_y hF rfl rfl (by decide) _ (y_move rfl rfl) (fun a hF => ?_)
    refine vc_y hF rfl rfl (by decide) _ (y_cmp rfl rfl rfl rfl (gtr_f (by omega))) (fun a hF => ?_)
    refine vc_nil ?_
    refine hK3 _ _ ?_; clear  hK3 K3
    refine vc_false hF rfl ?_
    apply wp_skip
    refine hK2 _ _ ?_; clear  hK2 K2
    apply wp_seq_k; intro K5 hK5
    refine wp_region_lit ?_
    refine vc_y hF rfl rfl (by decide) _ (y_move rfl rfl) (fun a hF => ?_)
    refine vc_y hF rfl rfl (by decide) _ (y_assign rfl rfl) (fun a hF => ?_)
    refine vc_nil ?_
    refine hK5 _ _ ?_; clear  hK5 K5
    apply wp_ret
    refine vc_ret1 hF Tryd.results38 rfl ?_
    exact ⟨by rw [show min n 300 = n by omega], hA⟩

set_option maxRecDepth 100000 in
set_option maxHeartbeats 2000000 in
theorem sp_short (w0 w : World) (R : List Seg) (p : Prf) (sA : Option Addr) (n sC : Nat) (hp : p.OK) (hn : n ≤ sC) (hlen : p.ss.length = min n 300) (hA : Hp w0 R w) : Calls Tryd.prog 9 #[.agg (p.cells (.slice sA n sC)).toArray] w fun e w' => e = .returned (.agg (p.cells (.slice sA p.ss.length sC)).toArray) ∧ Hp w0 R w' := by
  refine vc_enter Tryd.func9 rfl Tryd.ntmps9 (Nat.le_of_ble_eq_true rfl) (fun a hF => ?_)
  apply wp_seq_k; intro K1 hK1
  refine wp_region_lit ?_
  refine vc_op rfl (fun K hK => hs_box (cs := p.cells (.slice sA n sC)) hF rfl (by decide) rfl hA rfl (fun b1 w2 a hb1 hF hA3 => hK _ _ ?_))
  clear hK K
  replace hA3 : Hp w0 ([row b1 28 (p.cells (.slice sA n sC))] :: R) w2 := hA3
  refine vc_op rfl (fun K hK => hs_alloc hF rfl (by decide) rfl hA3 (zr28_s6) (fun b4 w5 a hb4 hF hA6 => hK _ _ ?_))
  clear hK K
  replace hA6 : Hp w0 ([row b4 28 [.bool false, .int .i64 0, .int .u8 0, .int .u8 0, .int .u8 0, .int .u8 0, .int .u8 0, .int .u8 0, .int .u8 0, .int .u8 0, .int .u8 0, .int .u8 0, .int .u8 0, .int .u8 0, .int .u8 0, .int .u8 0, .int .u8 0, .int .u8 0, .int .u8 0, .int .u8 0, .int .u8 0, .int .u8 0, .int .u8 0, .int .u8 0, .int .u8 0, .int .u8 0, .int .u8 0, .int .u8 0, .int .u8 0, .int .u8 0, .int .u8 0, .int .u8 0, .int .u8 0, .int .u8 0, .int .u8 0, .int .u8 0, .int .u8 0, .int .u8 0, .int .u8 0, .int .u8 0, .int .u8 0, .int .u8 0, .int .u8 0, .int .u8 0, .int .u8 0, .int .u8 0, .int .u8 0, .int .u8 0, .int .u8 0, .int .u8 0, .int .u8 0, .int .u8 0, .int .u8 0, .int .u8 0, .int .u8 0, .int .u8 0, .int .u8 0, .int .u8 0, .int .u8 0, .int .u8 0, .int .u8 0, .int .u8 0, .int .u8 0, .int .u8 0, .int .u8 0, .int .u8 0, .slice none 0 0]] :: [row b1 28 (p.cells (.slice sA n sC))] :: R) w5 := hA6
  refine vc_nil ?_
  refine hK1 _ _ ?_; clear  hK1 K1
  apply wp_seq_k; intro K2 hK2
  refine wp_region_lit ?_
  refine vc_y hF rfl rfl (by decide) _ (y_field rfl Tryd.underlying28 rfl sz26_s6 (by decide) rfl (rfl : (⟨_, 0 + _, none⟩ : Addr) = ⟨_, 66, none⟩)) (fun a hF => ?_)
  refine vc_y hF rfl rfl (by decide) _ (y_ld rfl hA6.q rfl 1 rfl (Prf.c_sums hp) nr26_s6) (fun a hF => ?_)
  refine vc_op rfl (fun K hK => ws_call hF rfl (by decide) cl38_s6 rfl rfl ?_)
  with_reducible refine (sp_few w0 _ ([row b4 28 [.bool false, .int .i64 0, .int .u8 0, .int .u8 0, .int .u8 0, .int .u8 0, .int .u8 0, .int .u8 0, .int .u8 0, .int .u8 0, .int .u8 0, .int .u8 0, .int .u8 0, .int .u8 0, .int .u8 0, .int .u8 0, .int .u8 0, .int .u8 0, .int .u8 0, .int .u8 0, .int .u8 0, .int .u8 0, .int .u8 0, .int .u8 0, .int .u8 0, .int .u8 0, .int .u8 0, .int .u8 0, .int .u8 0, .int .u8 0, .int .u8 0, .int .u8 0, .int .u8 0, .int .u8 0, .int .u8 0, .int .u8 0, .int .u8 0, .int .u8 0, .int .u8 0, .int .u8 0, .int .u8 0, .int .u8 0, .int .u8 0, .int .u8 0, .int .u8 0, .int .u8 0, .int .u8 0, .int .u8 0, .int .u8 0, .int .u8 0, .int .u8 0, .int .u8 0, .int .u8 0, .int .u8 0, .int .u8 0, .int .u8 0, .int .u8 0, .int .u8 0, .int .u8 0, .int .u8 0, .int .u8 0, .int .u8 0, .int .u8 0, .int .u8 0, .int .u8 0, .int .u8 0, .slice none 0 0]] :: [row b1 28 (p.cells (.slice sA n sC))] :: R) sA n sC hn hA6 ).mono ?_
  rintro e' w7 ⟨rfl, hA8⟩
  refine ⟨_, rfl, fun a hF => hK _ _ ?_⟩
  clear hK K
  replace hA8 : Hp w0 ([row b4 28 [.bool false, .int .i64 0, .int .u8 0, .int .u8 0, .int .u8 0, .int .u8 0, .int .u8 0, .int .u8 0, .int .u8 0, .int .u8 0, .int .u8 0, .int .u8 0, .int .u8 0, .int .u8 0, .int .u8 0, .int .u8 0, .int .u8 0, .int .u8 0, .int .u8 0, .int .u8 0, .int .u8 0, .int .u8 0, .int .u8 0, .int .u8 0, .int .u8 0, .int .u8 0, .int .u8 0, .int .u8 0, .int .u8 0, .int .u8 0, .int .u8 0, .int .u8 0, .int .u8 0, .int .u8 0, .int .u8 0, .int .u8 0, .int .u8 0, .int .u8 0, .int .u8 0, .int .u8 0, .int .u8 0, .int .u8 0, .int .u8 0, .int .u8 0, .int .u8 0, .int .u8 0, .int .u8 0, .int .u8 0, .int .u8 0, .int .u8 0, .int .u8 0, .int .u8 0, .int .u8 0, .int .u8 0, .int .u8 0, .int .u8 0, .int .u8 0, .int .u8 0, .int .u8 0, .int .u8 0, .int .u8 0, .int .u8 0, .int .u8 0, .int .u8 0, .int .u8 0, .int .u8 0, .slice none 0 0]] :: [row b1 28 (p.cells (.slice sA n sC))] :: R) w7 := hA8
  refine vc_y hF rfl rfl (by decide) _ (y_field rfl Tryd.underlying28 rfl sz26_s6 (by decide) rfl (rfl : (⟨_, 0 + _, none⟩ : Addr) = ⟨_, 66, none⟩)) (fun a hF => ?_)
  refine vc_op rfl (fun K hK => hs_store1 hF rfl rfl hA8 rfl rfl 1 rfl (by rw [Prf.c_len hp]; decide) rfl sz26_s6 (fun w9 hA10 => hK _ _ ?_))
  clear hK K
  replace hA10 : Hp w0 ([row b4 28 [.bool false, .int .i64 0, .int .u8 0, .int .u8 0, .int .u8 0, .int .u8 0, .int .u8 0, .int .u8 0, .int .u8 0, .int .u8 0, .int .u8 0, .int .u8 0, .int .u8 0, .int .u8 0, .int .u8 0, .int .u8 0, .int .u8 0, .int .u8 0, .int .u8 0, .int .u8 0, .int .u8 0, .int .u8 0, .int .u8 0, .int .u8 0, .int .u8 0, .int .u8 0, .int .u8 0, .int .u8 0, .int .u8 0, .int .u8 0, .int .u8 0, .int .u8 0, .int .u8 0, .int .u8 0, .int .u8 0, .int .u8 0, .int .u8 0, .int .u8 0, .int .u8 0, .int .u8 0, .int .u8 0, .int .u8 0, .int .u8 0, .int .u8 0, .int .u8 0, .int .u8 0, .int .u8 0, .int .u8 0, .int .u8 0, .int .u8 0, .int .u8 0, .int .u8 0, .int .u8 0, .int .u8 0, .int .u8 0, .int .u8 0, .int .u8 0, .int .u8 0, .int .u8 0, .int .u8 0, .int .u8 0, .int .u8 0, .int .u8 0, .int .u8 0, .int .u8 0, .int .u8 0, .slice none 0 0]] :: [row b1 28 ((p.cells (.slice sA n sC)).set 66 (.slice sA (min n 300) sC))] :: R) w9 := hA10
  have hA11 : Hp w0 ([row b4 28 [.bool false, .int .i64 0, .int .u8 0, .int .u8 0, .int .u8 0, .int .u8 0, .int .u8 0, .int .u8 0, .int .u8 0, .int .u8 0, .int .u8 0, .int .u8 0, .int .u8 0, .int .u8 0, .int .u8 0, .int .u8 0, .int .u8 0, .int .u8 0, .int .u8 0, .int .u8 0, .int .u8 0, .int .u8 0, .int .u8 0, .int .u8 0, .int .u8 0, .int .u8 0, .int .u8 0, .int .u8 0, .int .u8 0, .int .u8 0, .int .u8 0, .int .u8 0, .int .u8 0, .int .u8 0, .int .u8 0, .int .u8 0, .int .u8 0, .int .u8 0, .int .u8 0, .int .u8 0, .int .u8 0, .int .u8 0, .int .u8 0, .int .u8 0, .int .u8 0, .int .u8 0, .int .u8 0, .int .u8 0, .int .u8 0, .int .u8 0, .int .u8 0, .int .u8 0, .int .u8 0, .int .u8 0, .int .u8 0, .int .u8 0, .int .u8 0, .int .u8 0, .int .u8 0, .int .u8 0, .int .u8 0, .int .u8 0, .int .u8 0, .int .u8 0, .int .u8 0, .int .u8 0, .slice none 0 0]] :: [row b1 28 (p.cells (.slice sA p.ss.length sC))] :: R) w9 := by rw [hlen, ← Prf.c_set hp (sv := .slice sA n sC)]; exact hA10
  refine vc_nil ?_
  refine hK2 _ _ ?_; clear  hK2 K2
  apply wp_seq_k; intro K3 hK3
  refine wp_region_lit ?_
  refine vc_y hF rfl rfl (by decide) _ (y_ldRow rfl hA11.q rfl 1 rfl rw28_s6 (by rw [Prf.c_len hp]; decide) (Prf.c_all hp)) (fun a hF => ?_)
  refine vc_op rfl (fun K hK => hs_storeAll (new := p.cells (.slice sA p.ss.length sC)) hF rfl rfl hA11 rfl rfl 0 rfl (by rw [Prf.c_len hp]; rfl) (Prf.c_one rfl) (by exact sz28_s6) (fun w12 hA13 => hK _ _ ?_))
  clear hK K
  replace hA13 : Hp w0 ([row b4 28 (p.cells (.slice sA p.ss.length sC))] :: [row b1 28 (p.cells (.slice sA p.ss.length sC))] :: R) w12 := hA13
  refine vc_nil ?_
  refine hK3 _ _ ?_; clear  hK3 K3
  apply wp_ret
  refine vc_retR hF Tryd.results9 hA13.q rfl 0 rfl (by rw [Prf.c_len hp]; exact rw28_s6) ?_
  have hA14 : Hp w0 (R) w12 := Hp.sel [[row b4 28 (p.cells (.slice sA p.ss.length sC))], [row b1 28 (p.cells (.slice sA p.ss.length sC))]] R [] [0, 1] hA13 rfl
  exact ⟨rfl, hA14⟩

set_option maxRecDepth 100000 in
set_option maxHeartbeats 2000000 in
theorem sp_stranger (w0 w : World) (R : List Seg) (hA : Hp w0 R w) : Calls Tryd.prog 11 #[] w fun e w' => e = .returned (.agg (dc strangerL).toArray) ∧ Hp w0 R w' := by
  refine vc_enter Tryd.func11 rfl Tryd.ntmps11 (Nat.le_of_ble_eq_true rfl) (fun a hF => ?_)
  apply wp_seq_k; intro K1 hK1
  refine wp_region_lit ?_
  refine vc_op rfl (fun K hK => hs_alloc hF rfl (by decide) rfl hA (zr23_s6) (fun b1 w2 a hb1 hF hA3 => hK _ _ ?_))
  clear hK K
  replace hA3 : Hp w0 ([row b1 23 (dc (List.replicate 32 0))] :: R) w2 := hA3
  refine vc_nil ?_
  refine hK1 _ _ ?_; clear  hK1 K1
  apply wp_seq_k; intro K2 hK2
  refine wp_region_lit ?_
  refine vc_y hF rfl rfl (by decide) _ (y_build (qs := #[(0, .int .u8 165), (1, .int .u8 90), (2, .int .u8 165)]) rfl rfl sp_build3) (fun a hF => ?_)
  refine vc_op rfl (fun K hK => hs_storeAll (new := dc strangerL) hF rfl rfl hA3 rfl rfl 0 rfl rfl (dc_one _) sz23_s6 (fun w4 hA5 => hK _ _ ?_))
  clear hK K
  replace hA5 : Hp w0 ([row b1 23 (dc strangerL)] :: R) w4 := hA5
  refine vc_nil ?_
  refine hK2 _ _ ?_; clear  hK2 K2
  apply wp_ret
  refine vc_retR hF Tryd.results11 hA5.q rfl 0 rfl rw23_s6 ?_
  have hA6 : Hp w0 (R) w4 := Hp.sel [[row b1 23 (dc strangerL)]] R [] [0] hA5 rfl
  exact ⟨rfl, hA6⟩

set_option maxRecDepth 100000 in
set_option maxHeartbeats 2000000 in
theorem sp_sameTexts (w0 w : World) (R : List Seg) (pa pb : Option Addr) (ts us : List TxX) (ca cb : Nat) (hT : ∀ t ∈ ts, txIn w0 R t) (hU : ∀ t ∈ us, txIn w0 R t) (hX : Rc w0 R pa (ts.map (·.v))) (hY : Rc w0 R pb (us.map (·.v))) (he : ts.map (·.l) = us.map (·.l)) (hl : ∀ t ∈ ts, t.l.length ≤ 9223372036854775807) (hn : ts.length ≤ 9223372036854775807) (hA : Hp w0 R w) : Calls Tryd.prog 16 #[.slice pa ts.length ca, .slice pb us.length cb] w fun e w' => e = .returned (.bool true) ∧ Hp w0 R w' := by
  have hlen : ts.length = us.length := by have h1 := congrArg List.length he; rwa [List.length_map, List.length_map] at h1
  refine vc_enter Tryd.func16 rfl Tryd.ntmps16 (Nat.le_of_ble_eq_true rfl) (fun a hF => ?_)
  apply wp_seq_k; intro K1 hK1
  refine wp_region_lit ?_
  refine vc_y hF rfl rfl (by decide) _ (y_assign rfl rfl) (fun a hF => ?_)
  refine vc_nil ?_
  refine hK1 _ _ ?_; clear  hK1 K1
  apply wp_seq_k; intro K2 hK2
  apply wp_seq_k; intro K3 hK3
  refine wp_region_lit ?_
  refine vc_y hF rfl rfl (by decide) _ (y_move rfl rfl) (fun a hF => ?_)
  refine vc_y hF rfl rfl (by decide) _ (y_lenSl rfl Tryd.underlying35 rfl rfl) (fun a hF => ?_)
  refine vc_y hF rfl rfl (by decide) _ (y_move rfl rfl) (fun a hF => ?_)
  refine vc_y hF rfl rfl (by decide) _ (y_lenSl rfl Tryd.underlying35 rfl rfl) (fun a hF => ?_)
  refine vc_y hF rfl rfl (by decide) _ (y_cmp rfl rfl rfl rfl (neq_f (by omega))) (fun a hF => ?_)
  refine vc_nil ?_
  refine hK3 _ _ ?_; clear  hK3 K3
  refine vc_false hF rfl ?_
  apply wp_skip
  refine hK2 _ _ ?_; clear  hK2 K2
  apply wp_seq_k; intro K4 hK4
  apply wp_seq_k; intro K5 hK5
  refine wp_region_lit ?_
  refine vc_y hF rfl rfl (by decide) _ (y_assign rfl rfl) (fun a hF => ?_)
  refine vc_nil ?_
  refine hK5 _ _ ?_; clear  hK5 K5
  apply wp_block
  refine vc_loop (G := Nat) (fun i a x => i ≤ ts.length ∧ Fr 27 [(5, .int .i64 (i : Int)), (0, .slice pa ts.length ca), (1, .slice pb us.length cb)] a ∧ Hp w0 (R) x) (fun i => ts.length - i) 0 (⟨Nat.zero_le _, hF.keep [5, 0, 1] rfl, hA⟩) ?_
  clear hF
  rintro i a w2 ⟨hi, hF, hA1⟩
  apply wp_seq_k; intro K6 hK6
  apply wp_seq_k; intro K7 hK7
  refine wp_region_lit ?_
  refine vc_y hF rfl rfl (by decide) _ (y_move rfl rfl) (fun a hF => ?_)
  refine vc_y hF rfl rfl (by decide) _ (y_move rfl rfl) (fun a hF => ?_)
  refine vc_y hF rfl rfl (by decide) _ (y_lenSl rfl Tryd.underlying35 rfl rfl) (fun a hF => ?_)
  refine vc_y hF rfl rfl (by decide) _ (y_cmp rfl rfl rfl rfl rfl) (fun a hF => ?_)
  refine vc_nil ?_
  refine hK7 _ _ ?_; clear  hK7 K7
  by_cases hlt : i < ts.length
  · refine vc_trueB hF rfl (lss_t (by omega)) ?_
    obtain ⟨t, ht⟩ : ∃ t, ts[i]? = some t := ⟨_, List.getElem?_eq_getElem hlt⟩
    obtain ⟨u, hu⟩ : ∃ u, us[i]? = some u := ⟨_, List.getElem?_eq_getElem (by omega)⟩
    obtain ⟨A1, c1, e1, h1⟩ := hT t (List.mem_of_getElem? ht)
    obtain ⟨A2, c2, e2, h2⟩ := hU u (List.mem_of_getElem? hu)
    have htu : t.l = u.l := by
      have h3 : (ts.map (·.l))[i]? = some t.l := by rw [List.getElem?_map, ht]; rfl
      have h4 : (us.map (·.l))[i]? = some u.l := by rw [List.getElem?_map, hu]; rfl
      rw [he, h4] at h3
      exact (Option.some.inj h3).symm
    have htl := hl t (List.mem_of_getElem? ht)
    obtain ⟨b1, q1, hpa, hc1⟩ := hX.ne (i := i) (by rw [List.length_map]; exact hlt)
    obtain ⟨b2, q2, hpb, hc2⟩ := hY.ne (i := i) (by rw [List.length_map]; omega)
    apply wp_skip
    refine hK6 _ _ ?_; clear  hK6 K6
    apply wp_seq_k; intro K8 hK8
    apply wp_block
    apply wp_seq_k; intro K9 hK9
    refine wp_region_plan 9 [8,9] [0,1,2,3,4,5,6,7,8,9] (fun x => Hq w0 (R) x) (by kernel_rfl) (by kernel_rfl) (Hq.drew (Hp.qp [] R [] hA1)) ?_
    have hA3 := Hl.drew hA1
    refine vp_y hF rfl rfl rfl rfl (by decide) _ (fun x hx => y_move rfl rfl) (fun a hF => ?_)
    refine vp_y hF rfl rfl rfl rfl (by decide) _ (fun x hx => y_move rfl rfl) (fun a hF => ?_)
    refine vp_y hF rfl rfl rfl rfl (by decide) _ (fun x hx => y_ixSl rfl Tryd.underlying35 sz59_s6 (by exact congrArg (fun A => some (Value.slice A ts.length ca)) hpa) rfl i rfl hlt (ad2 _ _ _)) (fun a hF => ?_)
    refine vp_y hF rfl rfl rfl rfl (by decide) _ (fun x hx => y_ldC (u := .slice A1 t.l.length c1) rfl hx rfl hc1 i (by rw [List.length_map]; omega) rfl (by rw [List.getElem?_map, ht, ← e1]; rfl) nr59_s6) (fun a hF => ?_)
    refine vp_y hF rfl rfl rfl rfl (by decide) _ (fun x hx => y_move rfl rfl) (fun a hF => ?_)
    refine vp_y hF rfl rfl rfl rfl (by decide) _ (fun x hx => y_move rfl rfl) (fun a hF => ?_)
    refine vp_y hF rfl rfl rfl rfl (by decide) _ (fun x hx => y_ixSl rfl Tryd.underlying35 sz59_s6 (by exact congrArg (fun A => some (Value.slice A us.length cb)) hpb) rfl i rfl (by omega) (ad2 _ _ _)) (fun a hF => ?_)
    refine vp_y hF rfl rfl rfl rfl (by decide) _ (fun x hx => y_ldC (u := .slice A2 u.l.length c2) rfl hx rfl hc2 i (by rw [List.length_map]; omega) rfl (by rw [List.getElem?_map, hu, ← e2]; rfl) nr59_s6) (fun a hF => ?_)
    refine vp_l rfl rfl rfl (fun K hK => ws_call hF rfl (by decide) cl27_s6 rfl rfl ?_)
    with_reducible refine (bk_same_bytes w0 _ R A1 A2 t.l u.l c1 c2 h1 h2 hA3 htl ).mono ?_
    rintro e' w4 ⟨rfl, hA5⟩
    refine ⟨_, rfl, fun a hF => hK _ _ (fun _ => ?_) ?_⟩
    · exact Hp.qp [] R [] hA5
    clear hK K
    replace hA5 : Hp w0 (R) w4 := hA5
    rw [decide_eq_true htu] at hF
    refine vp_ly hF rfl rfl rfl rfl (by decide) _ (y_not rfl rfl rfl) (fun h => absurd h (by decide)) (fun a hF => ?_)
    refine plan_end ?_
    refine hK9 _ _ ?_; clear  hK9 K9
    refine vc_false hF rfl ?_
    apply wp_skip
    refine hK8 _ _ ?_; clear  hK8 K8
    refine wp_region_lit ?_
    refine vc_y hF rfl rfl (by decide) _ (y_move rfl rfl) (fun a hF => ?_)
    refine vc_y hF rfl rfl (by decide) _ (y_add rfl rfl rfl (IntWalk.i64_in _ (by omega))) (fun a hF => ?_)
    refine vc_y hF rfl rfl (by decide) _ (y_assign rfl rfl) (fun a hF => ?_)
    refine vc_nil ?_
    exact ⟨i + 1, by omega, by omega, hF.keep [5, 0, 1] rfl, hA5⟩
  · refine vc_falseB hF rfl (lss_f (by omega)) ?_
    apply wp_exit
    refine hK4 _ _ ?_; clear hK6 K6 hK4 K4
    apply wp_seq_k; intro K10 hK10
    refine wp_region_lit ?_
    refine vc_y hF rfl rfl (by decide) _ (y_assign rfl rfl) (fun a hF => ?_)
    refine vc_nil ?_
    refine hK10 _ _ ?_; clear  hK10 K10
    apply wp_ret
    refine vc_ret1 hF Tryd.results16 rfl ?_
    exact ⟨rfl, hA1⟩
end Go.Proofs.YtpomngkcfbnjoaaDoor
