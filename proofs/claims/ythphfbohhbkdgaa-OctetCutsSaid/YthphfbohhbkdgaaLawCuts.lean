/- The walk of OctetCuts. -/
import Derived.Test.YthphfbohhbkdgaaCutsLaw
import Derived.Test.YthphfbohhbkdgaaHt
namespace Go.Proofs.Ythphfbohhbkdgaa
open Go.RowKit Go.Dk
theorem nr3_oc : notRow Try.prog 3 = true := by kernel_rfl
theorem nr34_oc : notRow Try.prog 34 = true := by kernel_rfl
theorem nr35_oc : notRow Try.prog 35 = true := by kernel_rfl
theorem rw38_oc : isRow Try.prog 38 12 = true := by kernel_rfl
theorem sz3_oc : (Try.prog.info? 3).map (·.size) = some 1 := by kernel_rfl
theorem sz34_oc : (Try.prog.info? 34).map (·.size) = some 1 := by kernel_rfl
theorem sz35_oc : (Try.prog.info? 35).map (·.size) = some 1 := by kernel_rfl
theorem sz38_oc : (Try.prog.info? 38).map (·.size) = some 12 := by kernel_rfl
theorem cl12_oc : CallsTo Try.prog 12 := ⟨_, Try.func12, by kernel_rfl, by kernel_rfl⟩
theorem cl21_oc : CallsTo Try.prog 21 := ⟨_, Try.func21, by kernel_rfl, by kernel_rfl⟩
theorem cl22_oc : CallsTo Try.prog 22 := ⟨_, Try.func22, by kernel_rfl, by kernel_rfl⟩
theorem cl23_oc : CallsTo Try.prog 23 := ⟨_, Try.func23, by kernel_rfl, by kernel_rfl⟩
theorem cl26_oc : CallsTo Try.prog 26 := ⟨_, Try.func26, by kernel_rfl, by kernel_rfl⟩
theorem cl29_oc : CallsTo Try.prog 29 := ⟨_, Try.func29, by kernel_rfl, by kernel_rfl⟩
theorem cl30_oc : CallsTo Try.prog 30 := ⟨_, Try.func30, by kernel_rfl, by kernel_rfl⟩
theorem cl31_oc : CallsTo Try.prog 31 := ⟨_, Try.func31, by kernel_rfl, by kernel_rfl⟩
theorem cl39_oc : CallsTo Try.prog 39 := ⟨_, Try.func39, by kernel_rfl, by kernel_rfl⟩
theorem cl40_oc : CallsTo Try.prog 40 := ⟨_, Try.func40, by kernel_rfl, by kernel_rfl⟩
theorem cl41_oc : CallsTo Try.prog 41 := ⟨_, Try.func41, by kernel_rfl, by kernel_rfl⟩
theorem cl43_oc : CallsTo Try.prog 43 := ⟨_, Try.func43, by kernel_rfl, by kernel_rfl⟩

theorem zr38_oc : zeroIs Try.prog 38 (.agg ([.int .i64 0, .int .i64 0, .int .u64 0, .int .i64 0, .bool false, .slice none 0 0, .slice none 0 0, .slice none 0 0, .string (⟨#[]⟩), .slice none 0 0, .int .i64 0, .int .i64 0] : List Value).toArray) := by unfold zeroIs; kernel_rfl

def withinI (n lo hi : Int) : Int := lo + n.emod (hi - lo + 1)
theorem within_key (n m : Int) (hm : 0 < m) : -m < n.tmod m ∧ n.tmod m < m ∧ n.emod m = if n.tmod m < 0 then n.tmod m + m else n.tmod m := by
  have h1 := Int.tmod_lt_of_pos n hm
  have h2 := Int.emod_nonneg n (show m ≠ 0 by omega)
  have h3 := Int.emod_lt_of_pos n hm
  have h4 := Int.mul_tdiv_add_tmod n m
  have h5 := Int.mul_ediv_add_emod n m
  have h6 : -m < n.tmod m := by
    have := Int.tmod_lt_of_pos (-n) hm
    rw [Int.neg_tmod] at this
    omega
  refine ⟨h6, h1, ?_⟩
  have h7 : m * (n / m - n.tdiv m) = n.tmod m - n.emod m := by
    rw [Int.mul_sub]
    have : n.emod m = n % m := rfl
    rw [this]
    omega
  have h8 : n.emod m = n % m := rfl
  split
  · have h9 : n / m - n.tdiv m = -1 := by
      have a1 : m * (n / m - n.tdiv m) < 0 := by omega
      have a2 : -(2 * m) < m * (n / m - n.tdiv m) := by omega
      have a3 : n / m - n.tdiv m < 0 := by
        rcases Int.lt_or_le (n / m - n.tdiv m) 0 with h | h
        · exact h
        · have := Int.mul_nonneg (Int.le_of_lt hm) h; omega
      have a4 : -2 < n / m - n.tdiv m := by
        rcases Int.lt_or_le (-2) (n / m - n.tdiv m) with h | h
        · exact h
        · have := Int.mul_le_mul_of_nonneg_left h (Int.le_of_lt hm); omega
      omega
    rw [h9] at h7
    omega
  · have h9 : n / m - n.tdiv m = 0 := by
      have a1 : -m < m * (n / m - n.tdiv m) := by omega
      have a2 : m * (n / m - n.tdiv m) < m := by omega
      have a3 : n / m - n.tdiv m < 1 := by
        rcases Int.lt_or_le (n / m - n.tdiv m) 1 with h | h
        · exact h
        · have := Int.mul_le_mul_of_nonneg_left h (Int.le_of_lt hm); omega
      have a4 : -1 < n / m - n.tdiv m := by
        rcases Int.lt_or_le (-1) (n / m - n.tdiv m) with h | h
        · exact h
        · have := Int.mul_le_mul_of_nonneg_left h (Int.le_of_lt hm); omega
      omega
    rw [h9] at h7
    omega
theorem within_le (n lo hi : Int) (h : lo ≤ hi) : lo ≤ withinI n lo hi ∧ withinI n lo hi ≤ hi := by
  have h2 := Int.emod_nonneg n (show hi - lo + 1 ≠ 0 by omega)
  have h3 := Int.emod_lt_of_pos n (show 0 < hi - lo + 1 by omega)
  unfold withinI
  have h4 : n.emod (hi - lo + 1) = n % (hi - lo + 1) := rfl
  omega

set_option maxRecDepth 100000 in
set_option maxHeartbeats 2000000 in
theorem bk_within (w : World) (n lo hi : Int) (h0 : 0 ≤ lo) (h1 : lo ≤ hi) (h2 : hi < 2305843009213693952) : Calls Try.prog 43 #[.int .i64 n, .int .i64 lo, .int .i64 hi] w fun e w' => e = .returned (.int .i64 (withinI n lo hi)) ∧ w = w' := by
  obtain ⟨k1, k2, k3⟩ := within_key n (hi - lo + 1) (by omega)
  have k4 : withinI n lo hi = lo + n.emod (hi - lo + 1) := rfl
  generalize hq : n.tmod (hi - lo + 1) = q at *
  refine vc_enter Try.func43 rfl Try.ntmps43 (Nat.le_of_ble_eq_true rfl) (fun a hF => ?_)
  apply wp_seq_k; intro K1 hK1
  refine wp_region_lit ?_
  refine vc_y hF rfl rfl (by decide) _ (y_assign rfl rfl) (fun a hF => ?_)
  refine vc_nil ?_
  refine hK1 _ _ ?_; clear  hK1 K1
  apply wp_seq_k; intro K2 hK2
  refine wp_region_lit ?_
  refine vc_y hF rfl rfl (by decide) _ (y_move rfl rfl) (fun a hF => ?_)
  refine vc_y hF rfl rfl (by decide) _ (y_move rfl rfl) (fun a hF => ?_)
  refine vc_y hF rfl rfl (by decide) _ (y_move rfl rfl) (fun a hF => ?_)
  refine vc_y hF rfl rfl (by decide) _ (y_sub rfl rfl rfl (IntWalk.i64_in _ (by omega))) (fun a hF => ?_)
  refine vc_y hF rfl rfl (by decide) _ (y_add rfl rfl rfl (IntWalk.i64_in _ (by omega))) (fun a hF => ?_)
  refine vc_y hF rfl rfl (by decide) _ (y_rem rfl rfl rfl (by omega) hq) (fun a hF => ?_)
  refine vc_y hF rfl rfl (by decide) _ (y_assign rfl rfl) (fun a hF => ?_)
  refine vc_nil ?_
  refine hK2 _ _ ?_; clear  hK2 K2
  apply wp_seq_k; intro K3 hK3
  apply wp_seq_k; intro K4 hK4
  refine wp_region_lit ?_
  refine vc_y hF rfl rfl (by decide) _ (y_move rfl rfl) (fun a hF => ?_)
  refine vc_y hF rfl rfl (by decide) _ (y_cmp rfl rfl rfl rfl rfl) (fun a hF => ?_)
  refine vc_nil ?_
  refine hK4 _ _ ?_; clear  hK4 K4
  by_cases hneg : q < 0
  · refine vc_trueB hF rfl (lss_t hneg) ?_
    refine wp_region_lit ?_
    refine vc_y hF rfl rfl (by decide) _ (y_move rfl rfl) (fun a hF => ?_)
    refine vc_y hF rfl rfl (by decide) _ (y_move rfl rfl) (fun a hF => ?_)
    refine vc_y hF rfl rfl (by decide) _ (y_add rfl rfl rfl (IntWalk.i64_in _ (by omega))) (fun a hF => ?_)
    refine vc_y hF rfl rfl (by decide) _ (y_move rfl rfl) (fun a hF => ?_)
    refine vc_y hF rfl rfl (by decide) _ (y_sub rfl rfl rfl (IntWalk.i64_in _ (by omega))) (fun a hF => ?_)
    refine vc_y hF rfl rfl (by decide) _ (y_add rfl rfl rfl (IntWalk.i64_in _ (by omega))) (fun a hF => ?_)
    refine vc_y hF rfl rfl (by decide) _ (y_assign rfl rfl) (fun a hF => ?_)
    refine vc_nil ?_
    refine hK3 _ _ ?_; clear  hK3 K3
    apply wp_seq_k; intro K5 hK5
    refine wp_region_lit ?_
    refine vc_y hF rfl rfl (by decide) _ (y_move rfl rfl) (fun a hF => ?_)
    refine vc_y hF rfl rfl (by decide) _ (y_move rfl rfl) (fun a hF => ?_)
    refine vc_y hF rfl rfl (by decide) _ (y_add rfl rfl rfl (show IntKind.i64.wrap _ = withinI n lo hi by rw [IntWalk.i64_in _ (by omega), k4, k3]; first | rw [if_pos hneg]; omega | rw [if_neg hneg])) (fun a hF => ?_)
    refine vc_y hF rfl rfl (by decide) _ (y_assign rfl rfl) (fun a hF => ?_)
    refine vc_nil ?_
    refine hK5 _ _ ?_; clear  hK5 K5
    apply wp_ret
    refine vc_ret1 hF Try.results43 rfl ?_
    exact ⟨rfl, rfl⟩
  · refine vc_falseB hF rfl (lss_f (by omega)) ?_
    apply wp_skip
    refine hK3 _ _ ?_; clear  hK3 K3
    apply wp_seq_k; intro K6 hK6
    refine wp_region_lit ?_
    refine vc_y hF rfl rfl (by decide) _ (y_move rfl rfl) (fun a hF => ?_)
    refine vc_y hF rfl rfl (by decide) _ (y_move rfl rfl) (fun a hF => ?_)
    refine vc_y hF rfl rfl (by decide) _ (y_add rfl rfl rfl (show IntKind.i64.wrap _ = withinI n lo hi by rw [IntWalk.i64_in _ (by omega), k4, k3]; first | rw [if_pos hneg]; omega | rw [if_neg hneg])) (fun a hF => ?_)
    refine vc_y hF rfl rfl (by decide) _ (y_assign rfl rfl) (fun a hF => ?_)
    refine vc_nil ?_
    refine hK6 _ _ ?_; clear  hK6 K6
    apply wp_ret
    refine vc_ret1 hF Try.results43 rfl ?_
    exact ⟨rfl, rfl⟩

abbrev intV (n : Nat) : Value := .int .i64 (n : Int)
theorem oc_build7 (w : World) : (Instr.build 38 #[(0, .int .i64 2), (2, .int .u64 7)]).run Try.prog w = .ok (.agg (opC op7).toArray) w := by kernel_rfl
theorem oc_bsI (n : Nat) (w : World) : (Instr.buildSlice 81 1 #[(0, intV n)]).run Try.prog w = .ok (.slice (some ⟨w.heap.size, 0, none⟩) 1 1) (w.alloc (.cells #[intV n] 3)) := by kernel_rfl
theorem oc_elemI : elemInfo Try.prog 3 1 8 := elemInfo_of (z := intV 0) (by kernel_rfl) (by kernel_rfl)

set_option maxRecDepth 100000 in
set_option maxHeartbeats 2000000 in
theorem law_cuts (w0 : World) (sA : Option Addr) (sC : Nat) (os : List OpX) (hOs : ∀ o ∈ os, OpOK w0 [] o ∧ OpMore w0 [] o) (hS : Rc w0 [] sA (os.map opC).flatten) (hn : os.length ≤ 9223372036854775807) (at_ : Int) : Calls Try.prog 9 #[.slice sA os.length sC, .int .i64 at_] w0 fun e w' => e = .returned (.bool true) ∧ At w0 [] w' := by
  have hA : Hp w0 [] w0 := Hp.start w0
  refine vc_enter Try.func9 rfl Try.ntmps9 (Nat.le_of_ble_eq_true rfl) (fun a hF => ?_)
  apply wp_seq_k; intro K1 hK1
  refine wp_region_lit ?_
  refine vc_y hF rfl rfl (by decide) _ (y_assign rfl rfl) (fun a hF => ?_)
  refine vc_nil ?_
  refine hK1 _ _ ?_; clear  hK1 K1
  apply wp_seq_k; intro K2 hK2
  apply wp_seq_k; intro K3 hK3
  refine wp_region_lit ?_
  refine vc_y hF rfl rfl (by decide) _ (y_move rfl rfl) (fun a hF => ?_)
  refine vc_op rfl (fun K hK => ws_call hF rfl (by decide) cl12_oc rfl rfl ?_)
  with_reducible refine (op_beyond w0 _ _ sA sC os hOs hS hA hn ).mono ?_
  rintro e' w1 ⟨b0, rfl, hb0, hA2⟩
  refine ⟨_, rfl, fun a hF => hK _ _ ?_⟩
  clear hK K
  replace hA2 : Hp w0 ([]) w1 := hA2
  refine vc_nil ?_
  refine hK3 _ _ ?_; clear  hK3 K3
  by_cases hbb : b0 = true
  · subst hbb
    refine vc_trueB hF rfl rfl ?_
    apply wp_seq_k; intro K4 hK4
    refine wp_region_lit ?_
    refine vc_y hF rfl rfl (by decide) _ (y_assign rfl rfl) (fun a hF => ?_)
    refine vc_nil ?_
    refine hK4 _ _ ?_; clear  hK4 K4
    apply wp_ret
    simp only [Exit.then]
    refine vc_ret1 hF Try.results9 rfl ?_
    exact ⟨rfl, hA2.at0⟩
  · obtain rfl : b0 = false := by simpa using hbb
    have hsum := hb0 rfl
    have h100 := sum_100 os
    refine vc_falseB hF rfl rfl ?_
    apply wp_skip
    refine hK2 _ _ ?_; clear  hK2 K2
    apply wp_seq_k; intro K5 hK5
    refine wp_region_lit ?_
    refine vc_op rfl (fun K hK => ws_call hF rfl (by decide) cl21_oc rfl rfl ?_)
    with_reducible refine (hw_new w0 _ _ hA2 ).mono ?_
    rintro e' w3 ⟨wb, Y, rfl, hY, hA4⟩
    refine ⟨_, rfl, fun a hF => hK _ _ ?_⟩
    clear hK K
    replace hA4 : Hp w0 (Y :: []) w3 := hA4
    refine vc_y hF rfl rfl (by decide) _ (y_assign rfl rfl) (fun a hF => ?_)
    refine vc_nil ?_
    refine hK5 _ _ ?_; clear  hK5 K5
    apply wp_seq_k; intro K6 hK6
    apply wp_seq_k; intro K7 hK7
    refine wp_region_lit ?_
    refine vc_y hF rfl rfl (by decide) _ (y_move rfl rfl) (fun a hF => ?_)
    refine vc_y hF rfl rfl (by decide) _ (y_eqNil rfl (by kernel_rfl) rfl rfl) (fun a hF => ?_)
    refine vc_y hF rfl rfl (by decide) _ (y_move rfl rfl) (fun a hF => ?_)
    refine vc_yg hF rfl rfl rfl rfl rfl (by decide) _ (y_move rfl rfl) (fun a hF => ?_)
    refine vc_yg hF rfl rfl rfl rfl rfl (by decide) _ (y_build (qs := #[(0, .int .i64 2), (2, .int .u64 7)]) rfl rfl oc_build7) (fun a hF => ?_)
    refine vc_opg hF rfl rfl rfl rfl (fun K hK => ws_call hF rfl (by decide) cl39_oc rfl rfl ?_)
    with_reducible refine (op_lays w0 _ [] wb [] Y op7 op7_ok hY hA4 (by decide) ).mono ?_
    rintro e' w5 ⟨Y1, rfl, hY, hA6⟩
    refine ⟨_, rfl, fun a hF => hK _ _ ?_⟩
    clear hK K
    replace hA6 : Hp w0 (Y1 :: []) w5 := hA6
    rw [show decide (laysE op7 = 0) = true from by decide] at hF
    rw [List.nil_append] at hY
    refine vc_yg hF rfl rfl rfl rfl rfl (by decide) _ (y_not rfl rfl rfl) (fun a hF => ?_)
    refine vc_y hF rfl rfl (by decide) _ (y_pick rfl rfl rfl) (fun a hF => ?_)
    refine vc_y hF rfl rfl (by decide) _ (y_move rfl rfl) (fun a hF => ?_)
    refine vc_yg hF rfl rfl rfl rfl rfl (by decide) _ (y_move rfl rfl) (fun a hF => ?_)
    refine vc_opg hF rfl rfl rfl rfl (fun K hK => ws_call hF rfl (by decide) cl22_oc rfl rfl ?_)
    with_reducible refine (hw_len w0 _ _ wb _ _ hY hA6 ).mono ?_
    rintro e' w9 ⟨rfl, rfl⟩
    refine ⟨_, rfl, fun a hF => hK _ _ ?_⟩
    clear hK K
    refine vc_yg hF rfl rfl rfl rfl rfl (by decide) _ (y_cmp rfl rfl rfl rfl (neq_f (by decide))) (fun a hF => ?_)
    refine vc_y hF rfl rfl (by decide) _ (y_pick rfl rfl rfl) (fun a hF => ?_)
    refine vc_nil ?_
    refine hK7 _ _ ?_; clear  hK7 K7
    refine vc_false hF rfl ?_
    apply wp_skip
    refine hK6 _ _ ?_; clear  hK6 K6
    apply wp_seq_k; intro K8 hK8
    refine wp_region_lit ?_
    refine vc_y hF rfl rfl (by decide) _ (y_build (qs := #[(0, .int .i64 2), (2, .int .u64 7)]) rfl rfl oc_build7) (fun a hF => ?_)
    refine vc_op rfl (fun K hK => hs_bs (qs := #[(0, .agg (opC op7).toArray)]) (cells := (opC op7).toArray) hF rfl (by decide) rfl hA6 rfl (ob_bsO op7) (fun b10 w11 a hb10 hF hA12 => hK _ _ ?_))
    clear hK K
    replace hA12 : Hp w0 ([row b10 38 (opC op7)] :: Y1 :: []) w11 := hA12
    refine vc_y hF rfl rfl (by decide) _ (y_assign rfl rfl) (fun a hF => ?_)
    refine vc_nil ?_
    refine hK8 _ _ ?_; clear  hK8 K8
    apply wp_seq_k; intro K9 hK9
    refine wp_region_lit ?_
    refine vc_op rfl (fun K hK => hs_bs1 (u1 := intV 2) hF rfl (by decide) rfl hA12 rfl (oc_bsI 2) (fun b13 w14 a hb13 hF hA15 => hK _ _ ?_))
    clear hK K
    replace hA15 : Hp w0 ([row b13 3 [intV 2]] :: [row b10 38 (opC op7)] :: Y1 :: []) w14 := hA15
    refine vc_y hF rfl rfl (by decide) _ (y_assign rfl rfl) (fun a hF => ?_)
    refine vc_nil ?_
    refine hK9 _ _ ?_; clear  hK9 K9
    apply wp_seq_k; intro K10 hK10
    apply wp_seq_k; intro K11 hK11
    refine wp_region_lit ?_
    refine vc_y hF rfl rfl (by decide) _ (y_assign rfl rfl) (fun a hF => ?_)
    refine vc_nil ?_
    refine hK11 _ _ ?_; clear  hK11 K11
    apply wp_block
    have hZ0 : Buf 38 12 [row b10 38 (opC op7)] (.slice (some ⟨b10, 0, none⟩) 1 1) (cutOf (os.take 0)).length ((cutOf (os.take 0)).map opC).flatten := by
      rw [List.take_zero]
      exact Buf.full (W := opC op7) rfl
    have hE0 : Buf 3 1 [row b13 3 [intV 2]] (.slice (some ⟨b13, 0, none⟩) 1 1) (endsOf (cutOf (os.take 0))).length ((endsOf (cutOf (os.take 0))).map intV) := by
      rw [List.take_zero]
      exact Buf.full (W := [intV 2]) rfl
    have hA16 : Hp w0 ([row b10 38 (opC op7)] :: [row b13 3 [intV 2]] :: Y1 :: []) w14 := Hp.ord [[row b13 3 [intV 2]], [row b10 38 (opC op7)], Y1] [] [1, 0, 2] hA15 rfl
    refine vc_loop (G := Nat) (fun i a x => ∃ (vL : Value) (ZL : Seg) (vE : Value) (ZE : Seg) (YW : Seg), i ≤ os.length ∧ Buf 38 12 ZL vL (cutOf (os.take i)).length ((cutOf (os.take i)).map opC).flatten ∧ Buf 3 1 ZE vE (endsOf (cutOf (os.take i))).length ((endsOf (cutOf (os.take i))).map intV) ∧ WrS wb ((cutOf (os.take i)).flatMap laysL) YW ∧ Fr 162 [(8, .int .i64 (i : Int)), (6, vL), (7, vE), (0, .slice sA os.length sC), (1, .int .i64 at_), (5, .pointer (some ⟨wb, 0, none⟩))] a ∧ Hp w0 (ZL :: ZE :: YW :: []) x) (fun i => os.length - i) 0 (⟨_, _, _, _, _, Nat.zero_le _, hZ0, hE0, (by rw [List.take_zero]; exact hY), hF.keep [8, 6, 7, 0, 1, 5] rfl, hA16⟩) ?_
    clear hF
    rintro i a w18 ⟨vL, ZL, vE, ZE, YW, hi, hZ, hEn, hY, hF, hA17⟩
    apply wp_seq_k; intro K12 hK12
    apply wp_seq_k; intro K13 hK13
    refine wp_region_lit ?_
    refine vc_y hF rfl rfl (by decide) _ (y_move rfl rfl) (fun a hF => ?_)
    refine vc_y hF rfl rfl (by decide) _ (y_move rfl rfl) (fun a hF => ?_)
    refine vc_y hF rfl rfl (by decide) _ (y_lenSl rfl Try.underlying23 rfl rfl) (fun a hF => ?_)
    refine vc_y hF rfl rfl (by decide) _ (y_cmp rfl rfl rfl rfl rfl) (fun a hF => ?_)
    refine vc_nil ?_
    refine hK13 _ _ ?_; clear  hK13 K13
    by_cases hlt : i < os.length
    · refine vc_trueB hF rfl (lss_t (by omega)) ?_
      obtain ⟨o, ho⟩ : ∃ o, os[i]? = some o := ⟨_, List.getElem?_eq_getElem hlt⟩
      obtain ⟨hok, _⟩ := hOs o (List.mem_of_getElem? ho)
      obtain ⟨hat, hle⟩ := flat_at (z := 12) (Ws := os.map opC) (V := opC o) (i := i) (fun V hV => by obtain ⟨u, _, rfl⟩ := List.mem_map.1 hV; rfl) (by rw [List.getElem?_map, ho]; rfl)
      obtain ⟨b, q, rfl, hc⟩ := hS.ne (i := i * 12) (by omega)
      have hT := cutOf_take ho
      have hszs := lays_size o hok.d32
      have hcost : opCost o ≤ (os.map opCost).sum := cost_le ho
      have hll : ((cutOf (os.take i)).flatMap laysL).length ≤ 2 + 2 * (os.map opCost).sum := cut_bytes os i (fun o ho => (hOs o ho).1.d32)
      have hcnt : (cutOf (os.take i)).length ≤ i + 1 := cut_count os i
      have hpos := cut_pos (os.take i)
      obtain ⟨AE, cE, rfl, hcE, hRE⟩ := hEn.rc (w0 := w0) (R := [ZE]) (List.mem_cons_self ..)
      have hel := endsOf_len (cutOf (os.take i))
      obtain ⟨be_, qe, rfl, hce⟩ := hRE.ne (i := (endsOf (cutOf (os.take i))).length - 1) (by rw [List.length_map]; omega)
      have hlast : ((endsOf (cutOf (os.take i))).map intV)[(endsOf (cutOf (os.take i))).length - 1]? = some (intV ((cutOf (os.take i)).flatMap laysL).length) := by
        rw [List.getElem?_map, hel, endsOf_at (by omega), Nat.sub_add_cancel hpos.1, List.take_length]; rfl
      apply wp_skip
      refine hK12 _ _ ?_; clear  hK12 K12
      apply wp_seq_k; intro K14 hK14
      apply wp_block
      apply wp_seq_k; intro K15 hK15
      refine wp_region_lit ?_
      refine vc_y hF rfl rfl (by decide) _ (y_move rfl rfl) (fun a hF => ?_)
      refine vc_y hF rfl rfl (by decide) _ (y_move rfl rfl) (fun a hF => ?_)
      refine vc_y hF rfl rfl (by decide) _ (y_ixSl rfl Try.underlying23 sz38_oc rfl rfl i rfl hlt rfl) (fun a hF => ?_)
      refine vc_y hF rfl rfl (by decide) _ (y_ldRowC (new := opC o) rfl (Hq.sub hA17.q (List.nil_subset _)) rfl hc (i * 12) hle rfl hat rw38_oc) (fun a hF => ?_)
      refine vc_op rfl (fun K hK => hs_alloc hF rfl (by decide) rfl hA17 (zr38_oc) (fun b19 w20 a hb19 hF hA21 => hK _ _ ?_))
      clear hK K
      replace hA21 : Hp w0 ([row b19 38 [.int .i64 0, .int .i64 0, .int .u64 0, .int .i64 0, .bool false, .slice none 0 0, .slice none 0 0, .slice none 0 0, .string (⟨#[]⟩), .slice none 0 0, .int .i64 0, .int .i64 0]] :: ZL :: ZE :: YW :: []) w20 := hA21
      refine vc_op rfl (fun K hK => hs_storeAll (new := [.int .i64 o.kind, .int .i64 o.at_, .int .u64 (o.v.n : Int), .int .i64 o.many, .bool o.v.b, .slice o.dA o.v.ds.length o.dC, .slice o.qA o.ps.length o.qC, .slice o.pA o.v.p.length o.pC, strV o.v.s, .slice o.sA o.v.ss.length o.sC, .int .i64 o.most, .int .i64 o.each]) hF rfl rfl hA21 rfl rfl 0 rfl rfl (by simp [Value.oneCell']) sz38_oc (fun w22 hA23 => hK _ _ ?_))
      clear hK K
      replace hA23 : Hp w0 ([row b19 38 [.int .i64 o.kind, .int .i64 o.at_, .int .u64 (o.v.n : Int), .int .i64 o.many, .bool o.v.b, .slice o.dA o.v.ds.length o.dC, .slice o.qA o.ps.length o.qC, .slice o.pA o.v.p.length o.pC, strV o.v.s, .slice o.sA o.v.ss.length o.sC, .int .i64 o.most, .int .i64 o.each]] :: ZL :: ZE :: YW :: []) w22 := hA23
      refine vc_nil ?_
      refine hK15 _ _ ?_; clear  hK15 K15
      apply wp_seq_k; intro K16 hK16
      refine wp_region_lit ?_
      refine vc_y hF rfl rfl (by decide) _ (y_field rfl Try.underlying38 rfl sz35_oc (by decide) rfl (rfl : (⟨_, 0 + _, none⟩ : Addr) = ⟨_, 7, none⟩)) (fun a hF => ?_)
      refine vc_y hF rfl rfl (by decide) _ (y_ld rfl hA23.q rfl 0 rfl rfl nr35_oc) (fun a hF => ?_)
      refine vc_y hF rfl rfl (by decide) _ (y_lenSl rfl Try.underlying35 rfl rfl) (fun a hF => ?_)
      refine vc_y hF rfl rfl (by decide) _ (y_field rfl Try.underlying38 rfl sz3_oc (by decide) rfl (rfl : (⟨_, 0 + _, none⟩ : Addr) = ⟨_, 3, none⟩)) (fun a hF => ?_)
      refine vc_op rfl (fun K hK => hs_store1 hF rfl rfl hA23 rfl rfl 0 rfl (by simp) rfl sz3_oc (fun w24 hA25 => hK _ _ ?_))
      clear hK K
      replace hA25 : Hp w0 ([row b19 38 [.int .i64 o.kind, .int .i64 o.at_, .int .u64 (o.v.n : Int), .int .i64 o.v.p.length, .bool o.v.b, .slice o.dA o.v.ds.length o.dC, .slice o.qA o.ps.length o.qC, .slice o.pA o.v.p.length o.pC, strV o.v.s, .slice o.sA o.v.ss.length o.sC, .int .i64 o.most, .int .i64 o.each]] :: ZL :: ZE :: YW :: []) w24 := hA25
      refine vc_nil ?_
      refine hK16 _ _ ?_; clear  hK16 K16
      apply wp_seq_k; intro K17 hK17
      apply wp_seq_k; intro K18 hK18
      refine wp_region_lit ?_
      refine vc_y hF rfl rfl (by decide) _ (y_field rfl Try.underlying38 rfl sz3_oc (by decide) rfl (rfl : (⟨_, 0 + _, none⟩ : Addr) = ⟨_, 0, none⟩)) (fun a hF => ?_)
      refine vc_y hF rfl rfl (by decide) _ (y_ld rfl hA25.q rfl 0 rfl rfl nr3_oc) (fun a hF => ?_)
      refine vc_y hF rfl rfl (by decide) _ (y_cmp rfl rfl rfl rfl rfl) (fun a hF => ?_)
      refine vc_nil ?_
      refine hK18 _ _ ?_; clear  hK18 K18
      by_cases h6 : o.kind = 6
      · refine vc_trueB hF rfl (eql_t (by omega)) ?_
        refine wp_region_lit ?_
        refine vc_y hF rfl rfl (by decide) _ (y_field rfl Try.underlying38 rfl sz34_oc (by decide) rfl (rfl : (⟨_, 0 + _, none⟩ : Addr) = ⟨_, 5, none⟩)) (fun a hF => ?_)
        refine vc_y hF rfl rfl (by decide) _ (y_ld rfl hA25.q rfl 0 rfl rfl nr34_oc) (fun a hF => ?_)
        refine vc_y hF rfl rfl (by decide) _ (y_lenSl rfl Try.underlying34 rfl rfl) (fun a hF => ?_)
        refine vc_y hF rfl rfl (by decide) _ (y_field rfl Try.underlying38 rfl sz3_oc (by decide) rfl (rfl : (⟨_, 0 + _, none⟩ : Addr) = ⟨_, 3, none⟩)) (fun a hF => ?_)
        refine vc_op rfl (fun K hK => hs_store1 hF rfl rfl hA25 rfl rfl 0 rfl (by simp) rfl sz3_oc (fun w26 hA27 => hK _ _ ?_))
        clear hK K
        replace hA27 : Hp w0 ([row b19 38 [.int .i64 o.kind, .int .i64 o.at_, .int .u64 (o.v.n : Int), .int .i64 o.v.ds.length, .bool o.v.b, .slice o.dA o.v.ds.length o.dC, .slice o.qA o.ps.length o.qC, .slice o.pA o.v.p.length o.pC, strV o.v.s, .slice o.sA o.v.ss.length o.sC, .int .i64 o.most, .int .i64 o.each]] :: ZL :: ZE :: YW :: []) w26 := hA27
        refine vc_nil ?_
        refine hK17 _ _ ?_; clear  hK17 K17
        apply wp_seq_k; intro K19 hK19
        obtain ⟨o1, ho1⟩ : ∃ o1, o1 = manyX o := ⟨_, rfl⟩
        have e1 : o1 = { o with many := (o.v.ds.length : Int) } := by rw [ho1, manyX, if_pos h6]
        have hv1 : o1.v = o.v := by rw [e1]
        have hok1 : OpOK w0 [] o1 := ho1 ▸ manyX_ok hok
        rw [← ho1] at hT
        have hA28 : Hp w0 ([row b19 38 (opC o1)] :: ZL :: ZE :: YW :: []) w26 := by rw [e1]; exact hA27
        by_cases hE : laysE o1 = 0
        · by_cases hne : laysL o1 = []
          · rw [if_neg (fun h => h.2 hne), List.append_nil] at hT
            have hnone : laysL o1 = [] := hne
            refine wp_region_plan 13 [2,5,13] [0,1,2,3,4,6,7,8,9,10,11,5,12,13] (fun x => Hq w0 ([row b19 38 (opC o1)] :: ZE :: []) x) (by kernel_rfl) (by kernel_rfl) (Hq.drew (Hp.qp [[row b19 38 (opC o1)], ZL, ZE, YW] [] [0, 2] hA28)) ?_
            have hA29 := Hl.drew hA28
            refine vp_y hF rfl rfl rfl rfl (by decide) _ (fun x hx => y_move rfl rfl) (fun a hF => ?_)
            refine vp_y hF rfl rfl rfl rfl (by decide) _ (fun x hx => y_ldRow (new := opC o1) rfl hx rfl 0 rfl rw38_oc (by rw [show (opC o1).length = 12 from rfl]; exact Nat.le_refl _) (by rw [List.drop_zero]; exact List.take_of_length_le (by rw [show (opC o1).length = 12 from rfl]; exact Nat.le_refl _))) (fun a hF => ?_)
            have hA30 : Hp w0 (YW :: [row b19 38 (opC o1)] :: ZL :: ZE :: []) w26.drew := Hp.ord [[row b19 38 (opC o1)], ZL, ZE, YW] [] [3, 0, 1, 2] hA29 rfl
            refine vp_l rfl rfl rfl (fun K hK => ws_call hF rfl (by decide) cl39_oc rfl rfl ?_)
            with_reducible refine (op_lays w0 _ ([row b19 38 (opC o1)] :: ZL :: ZE :: []) wb _ YW o1 (hok1.mono (List.nil_subset _)) hY hA30 (by rw [hv1]; omega) ).mono ?_
            rintro e' w31 ⟨Y2, rfl, hY, hA32⟩
            refine ⟨_, rfl, fun a hF => hK _ _ (fun _ => ?_) ?_⟩
            · exact Hp.qp [Y2, [row b19 38 (opC o1)], ZL, ZE] [] [1, 3] hA32
            clear hK K
            replace hA32 : Hp w0 (Y2 :: [row b19 38 (opC o1)] :: ZL :: ZE :: []) w31 := hA32
            rw [decide_eq_true hE] at hF
            refine vp_y hF rfl rfl rfl rfl (by decide) _ (fun x hx => y_move rfl rfl) (fun a hF => ?_)
            refine vp_yg hF rfl rfl rfl rfl rfl rfl rfl (by decide) _ (fun x hx => y_move rfl rfl) (fun a hF => ?_)
            refine vp_yg hF rfl rfl rfl rfl rfl rfl rfl (by decide) _ (fun x hx => y_move rfl rfl) (fun a hF => ?_)
            refine vp_yg hF rfl rfl rfl rfl rfl rfl rfl (by decide) _ (fun x hx => y_move rfl rfl) (fun a hF => ?_)
            refine vp_yg hF rfl rfl rfl rfl rfl rfl rfl (by decide) _ (fun x hx => y_lenSl rfl Try.underlying81 rfl rfl) (fun a hF => ?_)
            refine vp_yg hF rfl rfl rfl rfl rfl rfl rfl (by decide) _ (fun x hx => y_sub rfl rfl rfl (IntWalk.i64_in _ (by omega))) (fun a hF => ?_)
            refine vp_yg hF rfl rfl rfl rfl rfl rfl rfl (by decide) _ (fun x hx => y_ixSl rfl Try.underlying81 sz3_oc rfl rfl ((endsOf (cutOf (os.take i))).length - 1) (by omega) (by omega) (ad2 _ _ _)) (fun a hF => ?_)
            refine vp_yg hF rfl rfl rfl rfl rfl rfl rfl (by decide) _ (fun x hx => y_ldC (u := intV ((cutOf (os.take i)).flatMap laysL).length) rfl (Hq.sub hx (fun x hx => by rw [List.mem_singleton] at hx; subst hx; simp)) rfl hce ((endsOf (cutOf (os.take i))).length - 1) (by rw [List.length_map]; omega) rfl hlast nr3_oc) (fun a hF => ?_)
            refine vp_lg hF rfl rfl rfl rfl rfl rfl (fun K hK => ws_call hF rfl (by decide) cl22_oc rfl rfl ?_)
            with_reducible refine (hw_len w0 _ _ wb _ _ hY hA32 ).mono ?_
            rintro e' w35 ⟨rfl, rfl⟩
            refine ⟨_, rfl, fun a hF => hK _ _ (fun _ => ?_) ?_⟩
            · exact Hp.qp [Y2, [row b19 38 (opC o1)], ZL, ZE] [] [1, 3] hA32
            clear hK K
            refine vp_yg hF rfl rfl rfl rfl rfl rfl rfl (by decide) _ (fun x hx => y_cmp rfl rfl rfl rfl (gtr_f (by rw [hne, List.append_nil]; exact Int.le_refl _))) (fun a hF => ?_)
            refine vp_ly hF rfl rfl rfl rfl (by decide) _ (y_pick rfl rfl rfl) (fun h => absurd h (by decide)) (fun a hF => ?_)
            refine plan_end ?_
            refine hK19 _ _ ?_; clear  hK19 K19
            refine vc_false hF rfl ?_
            apply wp_skip
            refine hK14 _ _ ?_; clear  hK14 K14
            refine wp_region_lit ?_
            refine vc_y hF rfl rfl (by decide) _ (y_move rfl rfl) (fun a hF => ?_)
            refine vc_y hF rfl rfl (by decide) _ (y_add rfl rfl rfl (IntWalk.i64_in _ (by omega))) (fun a hF => ?_)
            refine vc_y hF rfl rfl (by decide) _ (y_assign rfl rfl) (fun a hF => ?_)
            refine vc_nil ?_
            rw [hnone, List.append_nil, ← hT] at hY
            have hA36 : Hp w0 (ZL :: ZE :: Y2 :: []) w31 := Hp.sel [Y2, [row b19 38 (opC o1)], ZL, ZE] [] [2, 3, 0] [1] hA32 rfl
            exact ⟨i + 1, by omega, vL, ZL, .slice (some ⟨be_, qe, none⟩) (endsOf (cutOf (os.take i))).length cE, ZE, Y2, by omega, by rw [hT]; exact hZ, by rw [hT]; exact hEn, hY, hF.keep [8, 6, 7, 0, 1, 5] rfl, hA36⟩
          · rw [if_pos ⟨hE, hne⟩] at hT
            have hlp : 0 < (laysL o1).length := List.length_pos_iff.2 hne
            refine wp_region_plan 13 [2,5,13] [0,1,2,3,4,6,7,8,9,10,11,5,12,13] (fun x => Hq w0 ([row b19 38 (opC o1)] :: ZE :: []) x) (by kernel_rfl) (by kernel_rfl) (Hq.drew (Hp.qp [[row b19 38 (opC o1)], ZL, ZE, YW] [] [0, 2] hA28)) ?_
            have hA37 := Hl.drew hA28
            refine vp_y hF rfl rfl rfl rfl (by decide) _ (fun x hx => y_move rfl rfl) (fun a hF => ?_)
            refine vp_y hF rfl rfl rfl rfl (by decide) _ (fun x hx => y_ldRow (new := opC o1) rfl hx rfl 0 rfl rw38_oc (by rw [show (opC o1).length = 12 from rfl]; exact Nat.le_refl _) (by rw [List.drop_zero]; exact List.take_of_length_le (by rw [show (opC o1).length = 12 from rfl]; exact Nat.le_refl _))) (fun a hF => ?_)
            have hA38 : Hp w0 (YW :: [row b19 38 (opC o1)] :: ZL :: ZE :: []) w26.drew := Hp.ord [[row b19 38 (opC o1)], ZL, ZE, YW] [] [3, 0, 1, 2] hA37 rfl
            refine vp_l rfl rfl rfl (fun K hK => ws_call hF rfl (by decide) cl39_oc rfl rfl ?_)
            with_reducible refine (op_lays w0 _ ([row b19 38 (opC o1)] :: ZL :: ZE :: []) wb _ YW o1 (hok1.mono (List.nil_subset _)) hY hA38 (by rw [hv1]; omega) ).mono ?_
            rintro e' w39 ⟨Y2, rfl, hY, hA40⟩
            refine ⟨_, rfl, fun a hF => hK _ _ (fun _ => ?_) ?_⟩
            · exact Hp.qp [Y2, [row b19 38 (opC o1)], ZL, ZE] [] [1, 3] hA40
            clear hK K
            replace hA40 : Hp w0 (Y2 :: [row b19 38 (opC o1)] :: ZL :: ZE :: []) w39 := hA40
            rw [decide_eq_true hE] at hF
            refine vp_y hF rfl rfl rfl rfl (by decide) _ (fun x hx => y_move rfl rfl) (fun a hF => ?_)
            refine vp_yg hF rfl rfl rfl rfl rfl rfl rfl (by decide) _ (fun x hx => y_move rfl rfl) (fun a hF => ?_)
            refine vp_yg hF rfl rfl rfl rfl rfl rfl rfl (by decide) _ (fun x hx => y_move rfl rfl) (fun a hF => ?_)
            refine vp_yg hF rfl rfl rfl rfl rfl rfl rfl (by decide) _ (fun x hx => y_move rfl rfl) (fun a hF => ?_)
            refine vp_yg hF rfl rfl rfl rfl rfl rfl rfl (by decide) _ (fun x hx => y_lenSl rfl Try.underlying81 rfl rfl) (fun a hF => ?_)
            refine vp_yg hF rfl rfl rfl rfl rfl rfl rfl (by decide) _ (fun x hx => y_sub rfl rfl rfl (IntWalk.i64_in _ (by omega))) (fun a hF => ?_)
            refine vp_yg hF rfl rfl rfl rfl rfl rfl rfl (by decide) _ (fun x hx => y_ixSl rfl Try.underlying81 sz3_oc rfl rfl ((endsOf (cutOf (os.take i))).length - 1) (by omega) (by omega) (ad2 _ _ _)) (fun a hF => ?_)
            refine vp_yg hF rfl rfl rfl rfl rfl rfl rfl (by decide) _ (fun x hx => y_ldC (u := intV ((cutOf (os.take i)).flatMap laysL).length) rfl (Hq.sub hx (fun x hx => by rw [List.mem_singleton] at hx; subst hx; simp)) rfl hce ((endsOf (cutOf (os.take i))).length - 1) (by rw [List.length_map]; omega) rfl hlast nr3_oc) (fun a hF => ?_)
            refine vp_lg hF rfl rfl rfl rfl rfl rfl (fun K hK => ws_call hF rfl (by decide) cl22_oc rfl rfl ?_)
            with_reducible refine (hw_len w0 _ _ wb _ _ hY hA40 ).mono ?_
            rintro e' w43 ⟨rfl, rfl⟩
            refine ⟨_, rfl, fun a hF => hK _ _ (fun _ => ?_) ?_⟩
            · exact Hp.qp [Y2, [row b19 38 (opC o1)], ZL, ZE] [] [1, 3] hA40
            clear hK K
            refine vp_yg hF rfl rfl rfl rfl rfl rfl rfl (by decide) _ (fun x hx => y_cmp rfl rfl rfl rfl (gtr_t (by rw [List.length_append]; omega))) (fun a hF => ?_)
            refine vp_ly hF rfl rfl rfl rfl (by decide) _ (y_pick rfl rfl rfl) (fun h => absurd h (by decide)) (fun a hF => ?_)
            refine plan_end ?_
            refine hK19 _ _ ?_; clear  hK19 K19
            refine vc_true hF rfl ?_
            have hnew : ((cutOf (os.take (i + 1))).flatMap laysL) = (cutOf (os.take i)).flatMap laysL ++ laysL o1 := by rw [hT, List.flatMap_append]; simp
            have hends : endsOf (cutOf (os.take (i + 1))) = endsOf (cutOf (os.take i)) ++ [((cutOf (os.take i)).flatMap laysL ++ laysL o1).length] := by rw [← hnew, hT, endsOf_snoc, ← hT]
            apply wp_seq_k; intro K20 hK20
            refine wp_region_lit ?_
            refine vc_y hF rfl rfl (by decide) _ (y_move rfl rfl) (fun a hF => ?_)
            refine vc_y hF rfl rfl (by decide) _ (y_ldRow (new := opC o1) rfl hA40.q rfl 1 rfl rw38_oc (by rw [show (opC o1).length = 12 from rfl]; exact Nat.le_refl _) (by rw [List.drop_zero]; exact List.take_of_length_le (by rw [show (opC o1).length = 12 from rfl]; exact Nat.le_refl _))) (fun a hF => ?_)
            refine vc_op rfl (fun K hK => hs_bs (qs := #[(0, .agg (opC o1).toArray)]) (cells := (opC o1).toArray) hF rfl (by decide) rfl hA40 rfl (ob_bsO o1) (fun b44 w45 a hb44 hF hA46 => hK _ _ ?_))
            clear hK K
            replace hA46 : Hp w0 ([row b44 38 (opC o1)] :: Y2 :: [row b19 38 (opC o1)] :: ZL :: ZE :: []) w45 := hA46
            refine vc_op rfl (fun K hK => hs_append hF rfl (by decide) rfl hA46 3 rfl hZ Try.underlying23 ob_elem rfl rfl (Rc.srcC (W := opC o1) (m := 1) (size := 12) (R := [row b44 38 (opC o1)] :: Y2 :: [row b19 38 (opC o1)] :: ZL :: ZE :: []) (Rc.ofRow (i := 0) (off := 0) rfl rfl) hA46.q Try.underlying23 (by decide) rfl (ob_one o1)) (by omega) (by decide) (fun v2 Z2 w47 a hZ2 hF hA48 => hK _ _ ?_))
            clear hK K
            replace hA48 : Hp w0 ([row b44 38 (opC o1)] :: Y2 :: [row b19 38 (opC o1)] :: Z2 :: ZE :: []) w47 := hA48
            replace hZ2 : Buf 38 12 Z2 v2 (cutOf (os.take (i + 1))).length ((cutOf (os.take (i + 1))).map opC).flatten := by
              rw [hT, List.length_append, List.map_append, List.flatten_append]
              simpa using hZ2
            refine vc_y hF rfl rfl (by decide) _ (y_assign rfl rfl) (fun a hF => ?_)
            refine vc_nil ?_
            refine hK20 _ _ ?_; clear  hK20 K20
            refine wp_region_lit ?_
            refine vc_y hF rfl rfl (by decide) _ (y_move rfl rfl) (fun a hF => ?_)
            refine vc_y hF rfl rfl (by decide) _ (y_move rfl rfl) (fun a hF => ?_)
            have hA49 : Hp w0 (Y2 :: [row b44 38 (opC o1)] :: [row b19 38 (opC o1)] :: Z2 :: ZE :: []) w47 := Hp.ord [[row b44 38 (opC o1)], Y2, [row b19 38 (opC o1)], Z2, ZE] [] [1, 0, 2, 3, 4] hA48 rfl
            refine vc_op rfl (fun K hK => ws_call hF rfl (by decide) cl22_oc rfl rfl ?_)
            with_reducible refine (hw_len w0 _ _ wb _ _ hY hA49 ).mono ?_
            rintro e' w52 ⟨rfl, rfl⟩
            refine ⟨_, rfl, fun a hF => hK _ _ ?_⟩
            clear hK K
            refine vc_op rfl (fun K hK => hs_bs1 (u1 := intV (((cutOf (os.take i)).flatMap laysL ++ laysL o1).length)) hF rfl (by decide) rfl hA49 rfl (oc_bsI (((cutOf (os.take i)).flatMap laysL ++ laysL o1).length)) (fun b53 w54 a hb53 hF hA55 => hK _ _ ?_))
            clear hK K
            replace hA55 : Hp w0 ([row b53 3 [intV (((cutOf (os.take i)).flatMap laysL ++ laysL o1).length)]] :: Y2 :: [row b44 38 (opC o1)] :: [row b19 38 (opC o1)] :: Z2 :: ZE :: []) w54 := hA55
            refine vc_op rfl (fun K hK => hs_append hF rfl (by decide) rfl hA55 5 rfl hEn Try.underlying81 oc_elemI rfl rfl (Rc.srcC (W := [intV ((cutOf (os.take i)).flatMap laysL ++ laysL o1).length]) (m := 1) (size := 1) (R := [row b53 3 [intV (((cutOf (os.take i)).flatMap laysL ++ laysL o1).length)]] :: Y2 :: [row b44 38 (opC o1)] :: [row b19 38 (opC o1)] :: Z2 :: ZE :: []) (Rc.ofRow (i := 0) (off := 0) rfl rfl) hA55.q Try.underlying81 (by decide) rfl (by simp [intV, Value.oneCell'])) (by omega) (by decide) (fun v3 Z3 w56 a hE3 hF hA57 => hK _ _ ?_))
            clear hK K
            replace hA57 : Hp w0 ([row b53 3 [intV (((cutOf (os.take i)).flatMap laysL ++ laysL o1).length)]] :: Y2 :: [row b44 38 (opC o1)] :: [row b19 38 (opC o1)] :: Z2 :: Z3 :: []) w56 := hA57
            replace hE3 : Buf 3 1 Z3 v3 (endsOf (cutOf (os.take (i + 1)))).length ((endsOf (cutOf (os.take (i + 1)))).map intV) := by
              rw [hends, List.length_append, List.map_append]
              exact hE3
            refine vc_y hF rfl rfl (by decide) _ (y_assign rfl rfl) (fun a hF => ?_)
            refine vc_nil ?_
            refine hK14 _ _ ?_; clear  hK14 K14
            refine wp_region_lit ?_
            refine vc_y hF rfl rfl (by decide) _ (y_move rfl rfl) (fun a hF => ?_)
            refine vc_y hF rfl rfl (by decide) _ (y_add rfl rfl rfl (IntWalk.i64_in _ (by omega))) (fun a hF => ?_)
            refine vc_y hF rfl rfl (by decide) _ (y_assign rfl rfl) (fun a hF => ?_)
            refine vc_nil ?_
            rw [← hnew] at hY
            have hA58 : Hp w0 (Z2 :: Z3 :: Y2 :: []) w56 := Hp.sel [[row b53 3 [intV (((cutOf (os.take i)).flatMap laysL ++ laysL o1).length)]], Y2, [row b44 38 (opC o1)], [row b19 38 (opC o1)], Z2, Z3] [] [4, 5, 1] [0, 2, 3] hA57 rfl
            exact ⟨i + 1, by omega, v2, Z2, v3, Z3, Y2, by omega, hZ2, hE3, hY, hF.keep [8, 6, 7, 0, 1, 5] rfl, hA58⟩
        · rw [if_neg (fun h => hE h.1), List.append_nil] at hT
          have hnone : laysL o1 = [] := lays_none hE
          refine wp_region_plan 13 [2,5,13] [0,1,2,3,4,6,7,8,9,10,11,5,12,13] (fun x => Hq w0 ([row b19 38 (opC o1)] :: ZE :: []) x) (by kernel_rfl) (by kernel_rfl) (Hq.drew (Hp.qp [[row b19 38 (opC o1)], ZL, ZE, YW] [] [0, 2] hA28)) ?_
          have hA59 := Hl.drew hA28
          refine vp_y hF rfl rfl rfl rfl (by decide) _ (fun x hx => y_move rfl rfl) (fun a hF => ?_)
          refine vp_y hF rfl rfl rfl rfl (by decide) _ (fun x hx => y_ldRow (new := opC o1) rfl hx rfl 0 rfl rw38_oc (by rw [show (opC o1).length = 12 from rfl]; exact Nat.le_refl _) (by rw [List.drop_zero]; exact List.take_of_length_le (by rw [show (opC o1).length = 12 from rfl]; exact Nat.le_refl _))) (fun a hF => ?_)
          have hA60 : Hp w0 (YW :: [row b19 38 (opC o1)] :: ZL :: ZE :: []) w26.drew := Hp.ord [[row b19 38 (opC o1)], ZL, ZE, YW] [] [3, 0, 1, 2] hA59 rfl
          refine vp_l rfl rfl rfl (fun K hK => ws_call hF rfl (by decide) cl39_oc rfl rfl ?_)
          with_reducible refine (op_lays w0 _ ([row b19 38 (opC o1)] :: ZL :: ZE :: []) wb _ YW o1 (hok1.mono (List.nil_subset _)) hY hA60 (by rw [hv1]; omega) ).mono ?_
          rintro e' w61 ⟨Y2, rfl, hY, hA62⟩
          refine ⟨_, rfl, fun a hF => hK _ _ (fun _ => ?_) ?_⟩
          · exact Hp.qp [Y2, [row b19 38 (opC o1)], ZL, ZE] [] [1, 3] hA62
          clear hK K
          replace hA62 : Hp w0 (Y2 :: [row b19 38 (opC o1)] :: ZL :: ZE :: []) w61 := hA62
          rw [decide_eq_false hE] at hF
          refine vp_y hF rfl rfl rfl rfl (by decide) _ (fun x hx => y_move rfl rfl) (fun a hF => ?_)
          refine vp_skip hF rfl rfl rfl rfl rfl rfl rfl rfl (by decide) (fun a hF => ?_)
          refine vp_skip hF rfl rfl rfl rfl rfl rfl rfl rfl (by decide) (fun a hF => ?_)
          refine vp_skip hF rfl rfl rfl rfl rfl rfl rfl rfl (by decide) (fun a hF => ?_)
          refine vp_skip hF rfl rfl rfl rfl rfl rfl rfl rfl (by decide) (fun a hF => ?_)
          refine vp_skip hF rfl rfl rfl rfl rfl rfl rfl rfl (by decide) (fun a hF => ?_)
          refine vp_skip hF rfl rfl rfl rfl rfl rfl rfl rfl (by decide) (fun a hF => ?_)
          refine vp_skip hF rfl rfl rfl rfl rfl rfl rfl rfl (by decide) (fun a hF => ?_)
          refine vp_skipl hF rfl rfl rfl rfl rfl rfl rfl rfl (by decide) (Hp.qp [Y2, [row b19 38 (opC o1)], ZL, ZE] [] [1, 3] hA62) (fun a hF => ?_)
          refine vp_skip hF rfl rfl rfl rfl rfl rfl rfl rfl (by decide) (fun a hF => ?_)
          refine vp_ly hF rfl rfl rfl rfl (by decide) _ (y_pick rfl rfl rfl) (fun h => absurd h (by decide)) (fun a hF => ?_)
          refine plan_end ?_
          refine hK19 _ _ ?_; clear  hK19 K19
          refine vc_false hF rfl ?_
          apply wp_skip
          refine hK14 _ _ ?_; clear  hK14 K14
          refine wp_region_lit ?_
          refine vc_y hF rfl rfl (by decide) _ (y_move rfl rfl) (fun a hF => ?_)
          refine vc_y hF rfl rfl (by decide) _ (y_add rfl rfl rfl (IntWalk.i64_in _ (by omega))) (fun a hF => ?_)
          refine vc_y hF rfl rfl (by decide) _ (y_assign rfl rfl) (fun a hF => ?_)
          refine vc_nil ?_
          rw [hnone, List.append_nil, ← hT] at hY
          have hA63 : Hp w0 (ZL :: ZE :: Y2 :: []) w61 := Hp.sel [Y2, [row b19 38 (opC o1)], ZL, ZE] [] [2, 3, 0] [1] hA62 rfl
          exact ⟨i + 1, by omega, vL, ZL, .slice (some ⟨be_, qe, none⟩) (endsOf (cutOf (os.take i))).length cE, ZE, Y2, by omega, by rw [hT]; exact hZ, by rw [hT]; exact hEn, hY, hF.keep [8, 6, 7, 0, 1, 5] rfl, hA63⟩
      · refine vc_falseB hF rfl (eql_f (by omega)) ?_
        apply wp_skip
        refine hK17 _ _ ?_; clear  hK17 K17
        apply wp_seq_k; intro K21 hK21
        obtain ⟨o1, ho1⟩ : ∃ o1, o1 = manyX o := ⟨_, rfl⟩
        have e1 : o1 = { o with many := (o.v.p.length : Int) } := by rw [ho1, manyX, if_neg h6]
        have hv1 : o1.v = o.v := by rw [e1]
        have hok1 : OpOK w0 [] o1 := ho1 ▸ manyX_ok hok
        rw [← ho1] at hT
        have hA64 : Hp w0 ([row b19 38 (opC o1)] :: ZL :: ZE :: YW :: []) w24 := by rw [e1]; exact hA25
        by_cases hE : laysE o1 = 0
        · by_cases hne : laysL o1 = []
          · rw [if_neg (fun h => h.2 hne), List.append_nil] at hT
            have hnone : laysL o1 = [] := hne
            refine wp_region_plan 13 [2,5,13] [0,1,2,3,4,6,7,8,9,10,11,5,12,13] (fun x => Hq w0 ([row b19 38 (opC o1)] :: ZE :: []) x) (by kernel_rfl) (by kernel_rfl) (Hq.drew (Hp.qp [[row b19 38 (opC o1)], ZL, ZE, YW] [] [0, 2] hA64)) ?_
            have hA65 := Hl.drew hA64
            refine vp_y hF rfl rfl rfl rfl (by decide) _ (fun x hx => y_move rfl rfl) (fun a hF => ?_)
            refine vp_y hF rfl rfl rfl rfl (by decide) _ (fun x hx => y_ldRow (new := opC o1) rfl hx rfl 0 rfl rw38_oc (by rw [show (opC o1).length = 12 from rfl]; exact Nat.le_refl _) (by rw [List.drop_zero]; exact List.take_of_length_le (by rw [show (opC o1).length = 12 from rfl]; exact Nat.le_refl _))) (fun a hF => ?_)
            have hA66 : Hp w0 (YW :: [row b19 38 (opC o1)] :: ZL :: ZE :: []) w24.drew := Hp.ord [[row b19 38 (opC o1)], ZL, ZE, YW] [] [3, 0, 1, 2] hA65 rfl
            refine vp_l rfl rfl rfl (fun K hK => ws_call hF rfl (by decide) cl39_oc rfl rfl ?_)
            with_reducible refine (op_lays w0 _ ([row b19 38 (opC o1)] :: ZL :: ZE :: []) wb _ YW o1 (hok1.mono (List.nil_subset _)) hY hA66 (by rw [hv1]; omega) ).mono ?_
            rintro e' w67 ⟨Y2, rfl, hY, hA68⟩
            refine ⟨_, rfl, fun a hF => hK _ _ (fun _ => ?_) ?_⟩
            · exact Hp.qp [Y2, [row b19 38 (opC o1)], ZL, ZE] [] [1, 3] hA68
            clear hK K
            replace hA68 : Hp w0 (Y2 :: [row b19 38 (opC o1)] :: ZL :: ZE :: []) w67 := hA68
            rw [decide_eq_true hE] at hF
            refine vp_y hF rfl rfl rfl rfl (by decide) _ (fun x hx => y_move rfl rfl) (fun a hF => ?_)
            refine vp_yg hF rfl rfl rfl rfl rfl rfl rfl (by decide) _ (fun x hx => y_move rfl rfl) (fun a hF => ?_)
            refine vp_yg hF rfl rfl rfl rfl rfl rfl rfl (by decide) _ (fun x hx => y_move rfl rfl) (fun a hF => ?_)
            refine vp_yg hF rfl rfl rfl rfl rfl rfl rfl (by decide) _ (fun x hx => y_move rfl rfl) (fun a hF => ?_)
            refine vp_yg hF rfl rfl rfl rfl rfl rfl rfl (by decide) _ (fun x hx => y_lenSl rfl Try.underlying81 rfl rfl) (fun a hF => ?_)
            refine vp_yg hF rfl rfl rfl rfl rfl rfl rfl (by decide) _ (fun x hx => y_sub rfl rfl rfl (IntWalk.i64_in _ (by omega))) (fun a hF => ?_)
            refine vp_yg hF rfl rfl rfl rfl rfl rfl rfl (by decide) _ (fun x hx => y_ixSl rfl Try.underlying81 sz3_oc rfl rfl ((endsOf (cutOf (os.take i))).length - 1) (by omega) (by omega) (ad2 _ _ _)) (fun a hF => ?_)
            refine vp_yg hF rfl rfl rfl rfl rfl rfl rfl (by decide) _ (fun x hx => y_ldC (u := intV ((cutOf (os.take i)).flatMap laysL).length) rfl (Hq.sub hx (fun x hx => by rw [List.mem_singleton] at hx; subst hx; simp)) rfl hce ((endsOf (cutOf (os.take i))).length - 1) (by rw [List.length_map]; omega) rfl hlast nr3_oc) (fun a hF => ?_)
            refine vp_lg hF rfl rfl rfl rfl rfl rfl (fun K hK => ws_call hF rfl (by decide) cl22_oc rfl rfl ?_)
            with_reducible refine (hw_len w0 _ _ wb _ _ hY hA68 ).mono ?_
            rintro e' w71 ⟨rfl, rfl⟩
            refine ⟨_, rfl, fun a hF => hK _ _ (fun _ => ?_) ?_⟩
            · exact Hp.qp [Y2, [row b19 38 (opC o1)], ZL, ZE] [] [1, 3] hA68
            clear hK K
            refine vp_yg hF rfl rfl rfl rfl rfl rfl rfl (by decide) _ (fun x hx => y_cmp rfl rfl rfl rfl (gtr_f (by rw [hne, List.append_nil]; exact Int.le_refl _))) (fun a hF => ?_)
            refine vp_ly hF rfl rfl rfl rfl (by decide) _ (y_pick rfl rfl rfl) (fun h => absurd h (by decide)) (fun a hF => ?_)
            refine plan_end ?_
            refine hK21 _ _ ?_; clear  hK21 K21
            refine vc_false hF rfl ?_
            apply wp_skip
            refine hK14 _ _ ?_; clear  hK14 K14
            refine wp_region_lit ?_
            refine vc_y hF rfl rfl (by decide) _ (y_move rfl rfl) (fun a hF => ?_)
            refine vc_y hF rfl rfl (by decide) _ (y_add rfl rfl rfl (IntWalk.i64_in _ (by omega))) (fun a hF => ?_)
            refine vc_y hF rfl rfl (by decide) _ (y_assign rfl rfl) (fun a hF => ?_)
            refine vc_nil ?_
            rw [hnone, List.append_nil, ← hT] at hY
            have hA72 : Hp w0 (ZL :: ZE :: Y2 :: []) w67 := Hp.sel [Y2, [row b19 38 (opC o1)], ZL, ZE] [] [2, 3, 0] [1] hA68 rfl
            exact ⟨i + 1, by omega, vL, ZL, .slice (some ⟨be_, qe, none⟩) (endsOf (cutOf (os.take i))).length cE, ZE, Y2, by omega, by rw [hT]; exact hZ, by rw [hT]; exact hEn, hY, hF.keep [8, 6, 7, 0, 1, 5] rfl, hA72⟩
          · rw [if_pos ⟨hE, hne⟩] at hT
            have hlp : 0 < (laysL o1).length := List.length_pos_iff.2 hne
            refine wp_region_plan 13 [2,5,13] [0,1,2,3,4,6,7,8,9,10,11,5,12,13] (fun x => Hq w0 ([row b19 38 (opC o1)] :: ZE :: []) x) (by kernel_rfl) (by kernel_rfl) (Hq.drew (Hp.qp [[row b19 38 (opC o1)], ZL, ZE, YW] [] [0, 2] hA64)) ?_
            have hA73 := Hl.drew hA64
            refine vp_y hF rfl rfl rfl rfl (by decide) _ (fun x hx => y_move rfl rfl) (fun a hF => ?_)
            refine vp_y hF rfl rfl rfl rfl (by decide) _ (fun x hx => y_ldRow (new := opC o1) rfl hx rfl 0 rfl rw38_oc (by rw [show (opC o1).length = 12 from rfl]; exact Nat.le_refl _) (by rw [List.drop_zero]; exact List.take_of_length_le (by rw [show (opC o1).length = 12 from rfl]; exact Nat.le_refl _))) (fun a hF => ?_)
            have hA74 : Hp w0 (YW :: [row b19 38 (opC o1)] :: ZL :: ZE :: []) w24.drew := Hp.ord [[row b19 38 (opC o1)], ZL, ZE, YW] [] [3, 0, 1, 2] hA73 rfl
            refine vp_l rfl rfl rfl (fun K hK => ws_call hF rfl (by decide) cl39_oc rfl rfl ?_)
            with_reducible refine (op_lays w0 _ ([row b19 38 (opC o1)] :: ZL :: ZE :: []) wb _ YW o1 (hok1.mono (List.nil_subset _)) hY hA74 (by rw [hv1]; omega) ).mono ?_
            rintro e' w75 ⟨Y2, rfl, hY, hA76⟩
            refine ⟨_, rfl, fun a hF => hK _ _ (fun _ => ?_) ?_⟩
            · exact Hp.qp [Y2, [row b19 38 (opC o1)], ZL, ZE] [] [1, 3] hA76
            clear hK K
            replace hA76 : Hp w0 (Y2 :: [row b19 38 (opC o1)] :: ZL :: ZE :: []) w75 := hA76
            rw [decide_eq_true hE] at hF
            refine vp_y hF rfl rfl rfl rfl (by decide) _ (fun x hx => y_move rfl rfl) (fun a hF => ?_)
            refine vp_yg hF rfl rfl rfl rfl rfl rfl rfl (by decide) _ (fun x hx => y_move rfl rfl) (fun a hF => ?_)
            refine vp_yg hF rfl rfl rfl rfl rfl rfl rfl (by decide) _ (fun x hx => y_move rfl rfl) (fun a hF => ?_)
            refine vp_yg hF rfl rfl rfl rfl rfl rfl rfl (by decide) _ (fun x hx => y_move rfl rfl) (fun a hF => ?_)
            refine vp_yg hF rfl rfl rfl rfl rfl rfl rfl (by decide) _ (fun x hx => y_lenSl rfl Try.underlying81 rfl rfl) (fun a hF => ?_)
            refine vp_yg hF rfl rfl rfl rfl rfl rfl rfl (by decide) _ (fun x hx => y_sub rfl rfl rfl (IntWalk.i64_in _ (by omega))) (fun a hF => ?_)
            refine vp_yg hF rfl rfl rfl rfl rfl rfl rfl (by decide) _ (fun x hx => y_ixSl rfl Try.underlying81 sz3_oc rfl rfl ((endsOf (cutOf (os.take i))).length - 1) (by omega) (by omega) (ad2 _ _ _)) (fun a hF => ?_)
            refine vp_yg hF rfl rfl rfl rfl rfl rfl rfl (by decide) _ (fun x hx => y_ldC (u := intV ((cutOf (os.take i)).flatMap laysL).length) rfl (Hq.sub hx (fun x hx => by rw [List.mem_singleton] at hx; subst hx; simp)) rfl hce ((endsOf (cutOf (os.take i))).length - 1) (by rw [List.length_map]; omega) rfl hlast nr3_oc) (fun a hF => ?_)
            refine vp_lg hF rfl rfl rfl rfl rfl rfl (fun K hK => ws_call hF rfl (by decide) cl22_oc rfl rfl ?_)
            with_reducible refine (hw_len w0 _ _ wb _ _ hY hA76 ).mono ?_
            rintro e' w79 ⟨rfl, rfl⟩
            refine ⟨_, rfl, fun a hF => hK _ _ (fun _ => ?_) ?_⟩
            · exact Hp.qp [Y2, [row b19 38 (opC o1)], ZL, ZE] [] [1, 3] hA76
            clear hK K
            refine vp_yg hF rfl rfl rfl rfl rfl rfl rfl (by decide) _ (fun x hx => y_cmp rfl rfl rfl rfl (gtr_t (by rw [List.length_append]; omega))) (fun a hF => ?_)
            refine vp_ly hF rfl rfl rfl rfl (by decide) _ (y_pick rfl rfl rfl) (fun h => absurd h (by decide)) (fun a hF => ?_)
            refine plan_end ?_
            refine hK21 _ _ ?_; clear  hK21 K21
            refine vc_true hF rfl ?_
            have hnew : ((cutOf (os.take (i + 1))).flatMap laysL) = (cutOf (os.take i)).flatMap laysL ++ laysL o1 := by rw [hT, List.flatMap_append]; simp
            have hends : endsOf (cutOf (os.take (i + 1))) = endsOf (cutOf (os.take i)) ++ [((cutOf (os.take i)).flatMap laysL ++ laysL o1).length] := by rw [← hnew, hT, endsOf_snoc, ← hT]
            apply wp_seq_k; intro K22 hK22
            refine wp_region_lit ?_
            refine vc_y hF rfl rfl (by decide) _ (y_move rfl rfl) (fun a hF => ?_)
            refine vc_y hF rfl rfl (by decide) _ (y_ldRow (new := opC o1) rfl hA76.q rfl 1 rfl rw38_oc (by rw [show (opC o1).length = 12 from rfl]; exact Nat.le_refl _) (by rw [List.drop_zero]; exact List.take_of_length_le (by rw [show (opC o1).length = 12 from rfl]; exact Nat.le_refl _))) (fun a hF => ?_)
            refine vc_op rfl (fun K hK => hs_bs (qs := #[(0, .agg (opC o1).toArray)]) (cells := (opC o1).toArray) hF rfl (by decide) rfl hA76 rfl (ob_bsO o1) (fun b80 w81 a hb80 hF hA82 => hK _ _ ?_))
            clear hK K
            replace hA82 : Hp w0 ([row b80 38 (opC o1)] :: Y2 :: [row b19 38 (opC o1)] :: ZL :: ZE :: []) w81 := hA82
            refine vc_op rfl (fun K hK => hs_append hF rfl (by decide) rfl hA82 3 rfl hZ Try.underlying23 ob_elem rfl rfl (Rc.srcC (W := opC o1) (m := 1) (size := 12) (R := [row b80 38 (opC o1)] :: Y2 :: [row b19 38 (opC o1)] :: ZL :: ZE :: []) (Rc.ofRow (i := 0) (off := 0) rfl rfl) hA82.q Try.underlying23 (by decide) rfl (ob_one o1)) (by omega) (by decide) (fun v2 Z2 w83 a hZ2 hF hA84 => hK _ _ ?_))
            clear hK K
            replace hA84 : Hp w0 ([row b80 38 (opC o1)] :: Y2 :: [row b19 38 (opC o1)] :: Z2 :: ZE :: []) w83 := hA84
            replace hZ2 : Buf 38 12 Z2 v2 (cutOf (os.take (i + 1))).length ((cutOf (os.take (i + 1))).map opC).flatten := by
              rw [hT, List.length_append, List.map_append, List.flatten_append]
              simpa using hZ2
            refine vc_y hF rfl rfl (by decide) _ (y_assign rfl rfl) (fun a hF => ?_)
            refine vc_nil ?_
            refine hK22 _ _ ?_; clear  hK22 K22
            refine wp_region_lit ?_
            refine vc_y hF rfl rfl (by decide) _ (y_move rfl rfl) (fun a hF => ?_)
            refine vc_y hF rfl rfl (by decide) _ (y_move rfl rfl) (fun a hF => ?_)
            have hA85 : Hp w0 (Y2 :: [row b80 38 (opC o1)] :: [row b19 38 (opC o1)] :: Z2 :: ZE :: []) w83 := Hp.ord [[row b80 38 (opC o1)], Y2, [row b19 38 (opC o1)], Z2, ZE] [] [1, 0, 2, 3, 4] hA84 rfl
            refine vc_op rfl (fun K hK => ws_call hF rfl (by decide) cl22_oc rfl rfl ?_)
            with_reducible refine (hw_len w0 _ _ wb _ _ hY hA85 ).mono ?_
            rintro e' w88 ⟨rfl, rfl⟩
            refine ⟨_, rfl, fun a hF => hK _ _ ?_⟩
            clear hK K
            refine vc_op rfl (fun K hK => hs_bs1 (u1 := intV (((cutOf (os.take i)).flatMap laysL ++ laysL o1).length)) hF rfl (by decide) rfl hA85 rfl (oc_bsI (((cutOf (os.take i)).flatMap laysL ++ laysL o1).length)) (fun b89 w90 a hb89 hF hA91 => hK _ _ ?_))
            clear hK K
            replace hA91 : Hp w0 ([row b89 3 [intV (((cutOf (os.take i)).flatMap laysL ++ laysL o1).length)]] :: Y2 :: [row b80 38 (opC o1)] :: [row b19 38 (opC o1)] :: Z2 :: ZE :: []) w90 := hA91
            refine vc_op rfl (fun K hK => hs_append hF rfl (by decide) rfl hA91 5 rfl hEn Try.underlying81 oc_elemI rfl rfl (Rc.srcC (W := [intV ((cutOf (os.take i)).flatMap laysL ++ laysL o1).length]) (m := 1) (size := 1) (R := [row b89 3 [intV (((cutOf (os.take i)).flatMap laysL ++ laysL o1).length)]] :: Y2 :: [row b80 38 (opC o1)] :: [row b19 38 (opC o1)] :: Z2 :: ZE :: []) (Rc.ofRow (i := 0) (off := 0) rfl rfl) hA91.q Try.underlying81 (by decide) rfl (by simp [intV, Value.oneCell'])) (by omega) (by decide) (fun v3 Z3 w92 a hE3 hF hA93 => hK _ _ ?_))
            clear hK K
            replace hA93 : Hp w0 ([row b89 3 [intV (((cutOf (os.take i)).flatMap laysL ++ laysL o1).length)]] :: Y2 :: [row b80 38 (opC o1)] :: [row b19 38 (opC o1)] :: Z2 :: Z3 :: []) w92 := hA93
            replace hE3 : Buf 3 1 Z3 v3 (endsOf (cutOf (os.take (i + 1)))).length ((endsOf (cutOf (os.take (i + 1)))).map intV) := by
              rw [hends, List.length_append, List.map_append]
              exact hE3
            refine vc_y hF rfl rfl (by decide) _ (y_assign rfl rfl) (fun a hF => ?_)
            refine vc_nil ?_
            refine hK14 _ _ ?_; clear  hK14 K14
            refine wp_region_lit ?_
            refine vc_y hF rfl rfl (by decide) _ (y_move rfl rfl) (fun a hF => ?_)
            refine vc_y hF rfl rfl (by decide) _ (y_add rfl rfl rfl (IntWalk.i64_in _ (by omega))) (fun a hF => ?_)
            refine vc_y hF rfl rfl (by decide) _ (y_assign rfl rfl) (fun a hF => ?_)
            refine vc_nil ?_
            rw [← hnew] at hY
            have hA94 : Hp w0 (Z2 :: Z3 :: Y2 :: []) w92 := Hp.sel [[row b89 3 [intV (((cutOf (os.take i)).flatMap laysL ++ laysL o1).length)]], Y2, [row b80 38 (opC o1)], [row b19 38 (opC o1)], Z2, Z3] [] [4, 5, 1] [0, 2, 3] hA93 rfl
            exact ⟨i + 1, by omega, v2, Z2, v3, Z3, Y2, by omega, hZ2, hE3, hY, hF.keep [8, 6, 7, 0, 1, 5] rfl, hA94⟩
        · rw [if_neg (fun h => hE h.1), List.append_nil] at hT
          have hnone : laysL o1 = [] := lays_none hE
          refine wp_region_plan 13 [2,5,13] [0,1,2,3,4,6,7,8,9,10,11,5,12,13] (fun x => Hq w0 ([row b19 38 (opC o1)] :: ZE :: []) x) (by kernel_rfl) (by kernel_rfl) (Hq.drew (Hp.qp [[row b19 38 (opC o1)], ZL, ZE, YW] [] [0, 2] hA64)) ?_
          have hA95 := Hl.drew hA64
          refine vp_y hF rfl rfl rfl rfl (by decide) _ (fun x hx => y_move rfl rfl) (fun a hF => ?_)
          refine vp_y hF rfl rfl rfl rfl (by decide) _ (fun x hx => y_ldRow (new := opC o1) rfl hx rfl 0 rfl rw38_oc (by rw [show (opC o1).length = 12 from rfl]; exact Nat.le_refl _) (by rw [List.drop_zero]; exact List.take_of_length_le (by rw [show (opC o1).length = 12 from rfl]; exact Nat.le_refl _))) (fun a hF => ?_)
          have hA96 : Hp w0 (YW :: [row b19 38 (opC o1)] :: ZL :: ZE :: []) w24.drew := Hp.ord [[row b19 38 (opC o1)], ZL, ZE, YW] [] [3, 0, 1, 2] hA95 rfl
          refine vp_l rfl rfl rfl (fun K hK => ws_call hF rfl (by decide) cl39_oc rfl rfl ?_)
          with_reducible refine (op_lays w0 _ ([row b19 38 (opC o1)] :: ZL :: ZE :: []) wb _ YW o1 (hok1.mono (List.nil_subset _)) hY hA96 (by rw [hv1]; omega) ).mono ?_
          rintro e' w97 ⟨Y2, rfl, hY, hA98⟩
          refine ⟨_, rfl, fun a hF => hK _ _ (fun _ => ?_) ?_⟩
          · exact Hp.qp [Y2, [row b19 38 (opC o1)], ZL, ZE] [] [1, 3] hA98
          clear hK K
          replace hA98 : Hp w0 (Y2 :: [row b19 38 (opC o1)] :: ZL :: ZE :: []) w97 := hA98
          rw [decide_eq_false hE] at hF
          refine vp_y hF rfl rfl rfl rfl (by decide) _ (fun x hx => y_move rfl rfl) (fun a hF => ?_)
          refine vp_skip hF rfl rfl rfl rfl rfl rfl rfl rfl (by decide) (fun a hF => ?_)
          refine vp_skip hF rfl rfl rfl rfl rfl rfl rfl rfl (by decide) (fun a hF => ?_)
          refine vp_skip hF rfl rfl rfl rfl rfl rfl rfl rfl (by decide) (fun a hF => ?_)
          refine vp_skip hF rfl rfl rfl rfl rfl rfl rfl rfl (by decide) (fun a hF => ?_)
          refine vp_skip hF rfl rfl rfl rfl rfl rfl rfl rfl (by decide) (fun a hF => ?_)
          refine vp_skip hF rfl rfl rfl rfl rfl rfl rfl rfl (by decide) (fun a hF => ?_)
          refine vp_skip hF rfl rfl rfl rfl rfl rfl rfl rfl (by decide) (fun a hF => ?_)
          refine vp_skipl hF rfl rfl rfl rfl rfl rfl rfl rfl (by decide) (Hp.qp [Y2, [row b19 38 (opC o1)], ZL, ZE] [] [1, 3] hA98) (fun a hF => ?_)
          refine vp_skip hF rfl rfl rfl rfl rfl rfl rfl rfl (by decide) (fun a hF => ?_)
          refine vp_ly hF rfl rfl rfl rfl (by decide) _ (y_pick rfl rfl rfl) (fun h => absurd h (by decide)) (fun a hF => ?_)
          refine plan_end ?_
          refine hK21 _ _ ?_; clear  hK21 K21
          refine vc_false hF rfl ?_
          apply wp_skip
          refine hK14 _ _ ?_; clear  hK14 K14
          refine wp_region_lit ?_
          refine vc_y hF rfl rfl (by decide) _ (y_move rfl rfl) (fun a hF => ?_)
          refine vc_y hF rfl rfl (by decide) _ (y_add rfl rfl rfl (IntWalk.i64_in _ (by omega))) (fun a hF => ?_)
          refine vc_y hF rfl rfl (by decide) _ (y_assign rfl rfl) (fun a hF => ?_)
          refine vc_nil ?_
          rw [hnone, List.append_nil, ← hT] at hY
          have hA99 : Hp w0 (ZL :: ZE :: Y2 :: []) w97 := Hp.sel [Y2, [row b19 38 (opC o1)], ZL, ZE] [] [2, 3, 0] [1] hA98 rfl
          exact ⟨i + 1, by omega, vL, ZL, .slice (some ⟨be_, qe, none⟩) (endsOf (cutOf (os.take i))).length cE, ZE, Y2, by omega, by rw [hT]; exact hZ, by rw [hT]; exact hEn, hY, hF.keep [8, 6, 7, 0, 1, 5] rfl, hA99⟩
    · refine vc_falseB hF rfl (lss_f (by omega)) ?_
      obtain rfl : i = os.length := by omega
      rw [List.take_length] at hZ hY hEn
      have hll : ((cutOf os).flatMap laysL).length ≤ 2 + 2 * (os.map opCost).sum := by
        have h1 := cut_bytes os os.length (fun o ho => (hOs o ho).1.d32)
        rwa [List.take_length] at h1
      have hlaid := cut_facts os (fun o ho => (hOs o ho).1)
      have hcnt := cut_count os os.length
      have hpos := cut_pos os
      rw [List.take_length] at hcnt
      obtain ⟨L, hL⟩ : ∃ L, L = cutOf os := ⟨_, rfl⟩
      rw [← hL] at hZ hY hEn hll hlaid hcnt hpos
      obtain ⟨l, hl⟩ : ∃ l, l = L.flatMap laysL := ⟨_, rfl⟩
      rw [← hl] at hY hll hpos
      have hel := endsOf_len L
      obtain ⟨AE, cE, rfl, hcE, hRE⟩ := hEn.rc (w0 := w0) (R := [ZE]) (List.mem_cons_self ..)
      obtain ⟨be_, qe, rfl, hce⟩ := hRE.ne (i := (endsOf L).length - 1) (by rw [List.length_map]; omega)
      have hlast : ((endsOf L).map intV)[(endsOf L).length - 1]? = some (intV l.length) := by
        rw [List.getElem?_map, hel, endsOf_at (by omega), Nat.sub_add_cancel hpos.1, List.take_length, ← hl]; rfl
      have hwi := within_le at_ 0 ((l.length : Int) - 1) (by omega)
      obtain ⟨n, hn2⟩ := Int.eq_ofNat_of_zero_le hwi.1
      obtain ⟨l2, hl2⟩ : ∃ l2, l2 = l.take n := ⟨_, rfl⟩
      have hnl : n < l.length := by omega
      have hl2n : l2.length = n := by rw [hl2, List.length_take]; omega
      apply wp_exit
      refine hK10 _ _ ?_; clear hK12 K12 hK10 K10
      apply wp_seq_k; intro K23 hK23
      refine wp_region_lit ?_
      refine vc_y hF rfl rfl (by decide) _ (y_move rfl rfl) (fun a hF => ?_)
      have hA100 : Hp w0 (YW :: ZL :: ZE :: []) w18 := Hp.ord [ZL, ZE, YW] [] [2, 0, 1] hA17 rfl
      refine vc_op rfl (fun K hK => ws_call hF rfl (by decide) cl23_oc rfl rfl ?_)
      with_reducible refine (hw_all w0 _ _ wb l YW hY hA100 (by omega) ).mono ?_
      rintro e' w101 ⟨va, ZA, Y3, rfl, hZA, hY, hA102⟩
      refine ⟨_, rfl, fun a hF => hK _ _ ?_⟩
      clear hK K
      replace hA102 : Hp w0 (ZA :: Y3 :: ZL :: ZE :: []) w101 := hA102
      obtain ⟨_, A0, c0, rfl, hc0, hR0⟩ := hZA.rd (w0 := w0) (R := [ZA]) (List.mem_cons_self ..)
      refine vc_y hF rfl rfl (by decide) _ (y_assign rfl rfl) (fun a hF => ?_)
      refine vc_nil ?_
      refine hK23 _ _ ?_; clear  hK23 K23
      apply wp_seq_k; intro K24 hK24
      apply wp_seq_k; intro K25 hK25
      refine wp_region_lit ?_
      refine vc_y hF rfl rfl (by decide) _ (y_move rfl rfl) (fun a hF => ?_)
      refine vc_y hF rfl rfl (by decide) _ (y_lenSl rfl Try.underlying35 rfl rfl) (fun a hF => ?_)
      refine vc_y hF rfl rfl (by decide) _ (y_move rfl rfl) (fun a hF => ?_)
      refine vc_y hF rfl rfl (by decide) _ (y_move rfl rfl) (fun a hF => ?_)
      refine vc_y hF rfl rfl (by decide) _ (y_lenSl rfl Try.underlying81 rfl rfl) (fun a hF => ?_)
      refine vc_y hF rfl rfl (by decide) _ (y_sub rfl rfl rfl (IntWalk.i64_in _ (by omega))) (fun a hF => ?_)
      refine vc_y hF rfl rfl (by decide) _ (y_ixSl rfl Try.underlying81 sz3_oc rfl rfl ((endsOf L).length - 1) (by omega) (by omega) (ad2 _ _ _)) (fun a hF => ?_)
      refine vc_y hF rfl rfl (by decide) _ (y_ldC (u := intV l.length) rfl (Hq.sub hA102.q (fun x hx => by rw [List.mem_singleton] at hx; subst hx; simp)) rfl hce ((endsOf L).length - 1) (by rw [List.length_map]; omega) rfl hlast nr3_oc) (fun a hF => ?_)
      refine vc_y hF rfl rfl (by decide) _ (y_cmp rfl rfl rfl rfl (neq_f rfl)) (fun a hF => ?_)
      refine vc_nil ?_
      refine hK25 _ _ ?_; clear  hK25 K25
      refine vc_false hF rfl ?_
      apply wp_skip
      refine hK24 _ _ ?_; clear  hK24 K24
      apply wp_seq_k; intro K26 hK26
      refine wp_region_lit ?_
      refine vc_y hF rfl rfl (by decide) _ (y_move rfl rfl) (fun a hF => ?_)
      refine vc_y hF rfl rfl (by decide) _ (y_move rfl rfl) (fun a hF => ?_)
      refine vc_y hF rfl rfl (by decide) _ (y_lenSl rfl Try.underlying35 rfl rfl) (fun a hF => ?_)
      refine vc_y hF rfl rfl (by decide) _ (y_sub rfl rfl rfl (IntWalk.i64_in _ (by omega))) (fun a hF => ?_)
      refine vc_op rfl (fun K hK => ws_call hF rfl (by decide) cl43_oc rfl rfl ?_)
      with_reducible refine (bk_within w101 at_ 0 ((l.length : Int) - 1) (by decide) (by omega) (by omega) ).mono ?_
      rintro e' w105 ⟨rfl, rfl⟩
      refine ⟨_, rfl, fun a hF => hK _ _ ?_⟩
      clear hK K
      rw [hn2] at hF
      refine vc_y hF rfl rfl (by decide) _ (y_assign rfl rfl) (fun a hF => ?_)
      refine vc_nil ?_
      refine hK26 _ _ ?_; clear  hK26 K26
      apply wp_seq_k; intro K27 hK27
      refine wp_region_lit ?_
      refine vc_y hF rfl rfl (by decide) _ (y_move rfl rfl) (fun a hF => ?_)
      refine vc_y hF rfl rfl (by decide) _ (y_move rfl rfl) (fun a hF => ?_)
      refine vc_y hF rfl rfl (by decide) _ (y_slice rfl Try.underlying35 ow_size5 rfl (.none 0) (.some rfl rfl) (Nat.zero_le n) (by omega) (show Value.slice (sub A0 0 c0 1) (n - 0) (c0 - 0) = .slice A0 l2.length c0 by rw [sub_zero, hl2n]; rfl)) (fun a hF => ?_)
      refine vc_op rfl (fun K hK => ws_call hF rfl (by decide) cl26_oc rfl rfl ?_)
      with_reducible refine (hr_read w0 _ _ A0 l2 c0 (by rw [hl2]; exact Rd.take (hR0.mono (by simp)) n) hA102 (by omega) ).mono ?_
      rintro e' w106 ⟨rb, A, c, X, rfl, hO, hA107⟩
      refine ⟨_, rfl, fun a hF => hK _ _ ?_⟩
      clear hK K
      replace hA107 : Hp w0 ([row rb 95 [.slice A l2.length c, .int .i64 ((0 : Nat) : Int), .int .i64 ((0 : Nat) : Int)]] :: X :: ZA :: Y3 :: ZL :: ZE :: []) w106 := hA107
      refine vc_y hF rfl rfl (by decide) _ (y_assign rfl rfl) (fun a hF => ?_)
      refine vc_nil ?_
      refine hK27 _ _ ?_; clear  hK27 K27
      apply wp_seq_k; intro K28 hK28
      apply wp_seq_k; intro K29 hK29
      refine wp_region_lit ?_
      refine vc_y hF rfl rfl (by decide) _ (y_move rfl rfl) (fun a hF => ?_)
      refine vc_y hF rfl rfl (by decide) _ (y_eqNil rfl (by kernel_rfl) rfl rfl) (fun a hF => ?_)
      refine vc_nil ?_
      refine hK29 _ _ ?_; clear  hK29 K29
      refine vc_false hF rfl ?_
      apply wp_skip
      refine hK28 _ _ ?_; clear  hK28 K28
      apply wp_seq_k; intro K30 hK30
      refine wp_region_lit ?_
      refine vc_y hF rfl rfl (by decide) _ (y_assign rfl rfl) (fun a hF => ?_)
      refine vc_nil ?_
      refine hK30 _ _ ?_; clear  hK30 K30
      apply wp_seq_k; intro K31 hK31
      apply wp_seq_k; intro K32 hK32
      refine wp_region_lit ?_
      refine vc_y hF rfl rfl (by decide) _ (y_assign rfl rfl) (fun a hF => ?_)
      refine vc_nil ?_
      refine hK32 _ _ ?_; clear  hK32 K32
      apply wp_block
      obtain ⟨AL, cL, rfl, hcL, hRL⟩ := hZ.rc (w0 := w0) (R := [ZL]) (List.mem_cons_self ..)
      have hA108 : Hp w0 ([row rb 95 [.slice A l2.length c, .int .i64 ((0 : Nat) : Int), .int .i64 ((0 : Nat) : Int)]] :: X :: ZL :: ZE :: []) w106 := Hp.sel [[row rb 95 [.slice A l2.length c, .int .i64 ((0 : Nat) : Int), .int .i64 ((0 : Nat) : Int)]], X, ZA, Y3, ZL, ZE] [] [0, 1, 4, 5] [2, 3] hA107 rfl
      refine vc_loop (G := Nat) (fun i a x => ∃ (q : Nat), i ≤ L.length ∧ q = ((L.take i).flatMap laysL).length ∧ q ≤ n ∧ Fr 162 [(14, .int .i64 (i : Int)), (13, .int .i64 (q : Int)), (6, .slice AL L.length cL), (7, .slice (some ⟨be_, qe, none⟩) ((endsOf L).length) cE), (11, .int .i64 (n : Int)), (12, .pointer (some ⟨rb, 0, none⟩))] a ∧ Hp w0 ([row rb 95 [.slice A l2.length c, .int .i64 (q : Int), .int .i64 ((0 : Nat) : Int)]] :: X :: ZL :: ZE :: []) x) (fun i => L.length - i) 0 (⟨0, Nat.zero_le _, rfl, Nat.zero_le _, hF.keep [14, 13, 6, 7, 11, 12] rfl, hA108⟩) ?_
      clear hF
      rintro i a w110 ⟨q, hi, hq, hqn, hF, hA109⟩
      apply wp_seq_k; intro K33 hK33
      apply wp_seq_k; intro K34 hK34
      refine wp_region_lit ?_
      refine vc_y hF rfl rfl (by decide) _ (y_move rfl rfl) (fun a hF => ?_)
      refine vc_y hF rfl rfl (by decide) _ (y_move rfl rfl) (fun a hF => ?_)
      refine vc_y hF rfl rfl (by decide) _ (y_lenSl rfl Try.underlying23 rfl rfl) (fun a hF => ?_)
      refine vc_y hF rfl rfl (by decide) _ (y_cmp rfl rfl rfl rfl rfl) (fun a hF => ?_)
      refine vc_nil ?_
      refine hK34 _ _ ?_; clear  hK34 K34
      by_cases hlt : i < L.length
      · refine vc_trueB hF rfl (lss_t (by omega)) ?_
        obtain ⟨o, ho⟩ : ∃ o, L[i]? = some o := ⟨_, List.getElem?_eq_getElem hlt⟩
        obtain ⟨hok, hm, hE⟩ := hlaid o (List.mem_of_getElem? ho)
        obtain ⟨hat, hle⟩ := flat_at (z := 12) (Ws := L.map opC) (V := opC o) (i := i) (fun V hV => by obtain ⟨u, _, rfl⟩ := List.mem_map.1 hV; rfl) (by rw [List.getElem?_map, ho]; rfl)
        obtain ⟨b, bq, rfl, hc⟩ := hRL.ne (i := i * 12) (by omega)
        have hend : ((L.take (i + 1)).flatMap laysL).length = q + (laysL o).length := by rw [hq, List.take_add_one, ho, List.flatMap_append, List.length_append]; simp
        have hendi : ((endsOf L).map intV)[i]? = some (intV (q + (laysL o).length)) := by rw [List.getElem?_map, endsOf_at hlt, hend]; rfl
        obtain ⟨hd1, hd2⟩ := cut_drop hl ho hq (Nat.le_of_lt hnl) hqn
        rw [← hl2] at hd1 hd2
        have hlaysl : (laysL o).length ≤ l.length := by
          have := flat_le_all L (i + 1)
          rw [hend, ← hl] at this; omega
        apply wp_skip
        refine hK33 _ _ ?_; clear  hK33 K33
        apply wp_seq_k; intro K35 hK35
        apply wp_block
        apply wp_seq_k; intro K36 hK36
        refine wp_region_lit ?_
        refine vc_y hF rfl rfl (by decide) _ (y_move rfl rfl) (fun a hF => ?_)
        refine vc_y hF rfl rfl (by decide) _ (y_move rfl rfl) (fun a hF => ?_)
        refine vc_y hF rfl rfl (by decide) _ (y_move rfl rfl) (fun a hF => ?_)
        refine vc_y hF rfl rfl (by decide) _ (y_ixSl rfl Try.underlying23 sz38_oc rfl rfl i rfl hlt rfl) (fun a hF => ?_)
        refine vc_y hF rfl rfl (by decide) _ (y_ldRowC (new := opC o) rfl (Hq.sub hA109.q (fun x hx => by rw [List.mem_singleton] at hx; subst hx; simp)) rfl hc (i * 12) hle rfl hat rw38_oc) (fun a hF => ?_)
        refine vc_op rfl (fun K hK => ws_call hF rfl (by decide) cl41_oc rfl rfl ?_)
        with_reducible refine (op_again w0 _ (ZL :: ZE :: []) rb A l2 c q 0 X o [] hok hO hA109 (by omega) (by omega) ).mono ?_
        rintro e' w111 ⟨o', G, rfl, hk', hm', hmo', hea', hv', hok', hA112⟩
        refine ⟨_, rfl, fun a hF => hK _ _ ?_⟩
        clear hK K
        replace hA112 : Hp w0 (G :: [row rb 95 [.slice A l2.length c, .int .i64 ((agR o (l2.drop q)).pl q 0 : Nat), .int .i64 ((agR o (l2.drop q)).why 0 : Nat)]] :: X :: ZL :: ZE :: []) w111 := hA112
        refine vc_op rfl (fun K hK => hs_alloc hF rfl (by decide) rfl hA112 (zr38_oc) (fun b113 w114 a hb113 hF hA115 => hK _ _ ?_))
        clear hK K
        replace hA115 : Hp w0 ([row b113 38 [.int .i64 0, .int .i64 0, .int .u64 0, .int .i64 0, .bool false, .slice none 0 0, .slice none 0 0, .slice none 0 0, .string (⟨#[]⟩), .slice none 0 0, .int .i64 0, .int .i64 0]] :: G :: [row rb 95 [.slice A l2.length c, .int .i64 ((agR o (l2.drop q)).pl q 0 : Nat), .int .i64 ((agR o (l2.drop q)).why 0 : Nat)]] :: X :: ZL :: ZE :: []) w114 := hA115
        refine vc_op rfl (fun K hK => hs_storeAll (new := opC o') hF rfl rfl hA115 rfl rfl 0 rfl rfl (ob_one o') sz38_oc (fun w116 hA117 => hK _ _ ?_))
        clear hK K
        replace hA117 : Hp w0 ([row b113 38 (opC o')] :: G :: [row rb 95 [.slice A l2.length c, .int .i64 ((agR o (l2.drop q)).pl q 0 : Nat), .int .i64 ((agR o (l2.drop q)).why 0 : Nat)]] :: X :: ZL :: ZE :: []) w116 := hA117
        refine vc_nil ?_
        refine hK36 _ _ ?_; clear  hK36 K36
        apply wp_seq_k; intro K37 hK37
        apply wp_seq_k; intro K38 hK38
        by_cases hov : n < q + (laysL o).length
        · have hag : agR o (l2.drop q) = .no 8 := by rw [hd2 hov]; exact cut1 o hok.d32 hm hE _ (by omega)
          rw [hag] at hA117
          replace hA117 : Hp w0 ([row b113 38 (opC o')] :: G :: [row rb 95 [.slice A l2.length c, .int .i64 ((q : Nat) : Int), .int .i64 ((8 : Nat) : Int)]] :: X :: ZL :: ZE :: []) w116 := hA117
          refine wp_region_lit ?_
          refine vc_y hF rfl rfl (by decide) _ (y_move rfl rfl) (fun a hF => ?_)
          refine vc_y hF rfl rfl (by decide) _ (y_move rfl rfl) (fun a hF => ?_)
          refine vc_y hF rfl rfl (by decide) _ (y_ixSl rfl Try.underlying81 sz3_oc rfl rfl i rfl (by omega) (ad2 _ _ _)) (fun a hF => ?_)
          refine vc_y hF rfl rfl (by decide) _ (y_ldC (u := intV (q + (laysL o).length)) rfl (Hq.sub hA117.q (fun x hx => by rw [List.mem_singleton] at hx; subst hx; simp)) rfl hce i (by rw [List.length_map]; omega) rfl hendi nr3_oc) (fun a hF => ?_)
          refine vc_y hF rfl rfl (by decide) _ (y_move rfl rfl) (fun a hF => ?_)
          refine vc_y hF rfl rfl (by decide) _ (y_cmp rfl rfl rfl rfl (gtr_t (by omega))) (fun a hF => ?_)
          refine vc_nil ?_
          refine hK38 _ _ ?_; clear  hK38 K38
          refine vc_true hF rfl ?_
          apply wp_seq_k; intro K39 hK39
          refine wp_region_lit ?_
          refine vc_y hF rfl rfl (by decide) _ (y_move rfl rfl) (fun a hF => ?_)
          have hA118 : Hp w0 ([row rb 95 [.slice A l2.length c, .int .i64 ((q : Nat) : Int), .int .i64 ((8 : Nat) : Int)]] :: X :: [row b113 38 (opC o')] :: G :: ZL :: ZE :: []) w116 := Hp.ord [[row b113 38 (opC o')], G, [row rb 95 [.slice A l2.length c, .int .i64 ((q : Nat) : Int), .int .i64 ((8 : Nat) : Int)]], X, ZL, ZE] [] [2, 3, 0, 1, 4, 5] hA117 rfl
          refine vc_op rfl (fun K hK => ws_call hF rfl (by decide) cl31_oc rfl rfl ?_)
          with_reducible refine (hr_why w0 _ _ rb A l2 c (q) 8 X hO hA118 ).mono ?_
          rintro e' w119 ⟨rfl, hA120⟩
          refine ⟨_, rfl, fun a hF => hK _ _ ?_⟩
          clear hK K
          replace hA120 : Hp w0 ([row rb 95 [.slice A l2.length c, .int .i64 ((q : Nat) : Int), .int .i64 ((8 : Nat) : Int)]] :: X :: [row b113 38 (opC o')] :: G :: ZL :: ZE :: []) w119 := hA120
          refine vc_y hF rfl rfl (by decide) _ (y_cmp rfl rfl rfl rfl (eql_t rfl)) (fun a hF => ?_)
          refine vc_y hF rfl rfl (by decide) _ (y_move rfl rfl) (fun a hF => ?_)
          refine vc_yg hF rfl rfl rfl rfl rfl (by decide) _ (y_move rfl rfl) (fun a hF => ?_)
          refine vc_opg hF rfl rfl rfl rfl (fun K hK => ws_call hF rfl (by decide) cl30_oc rfl rfl ?_)
          with_reducible refine (hr_done w0 _ _ rb A l2 c (q) 8 X hO hA120 (by omega) (by omega) ).mono ?_
          rintro e' w121 ⟨rfl, hA122⟩
          refine ⟨_, rfl, fun a hF => hK _ _ ?_⟩
          clear hK K
          replace hA122 : Hp w0 ([row rb 95 [.slice A l2.length c, .int .i64 ((q : Nat) : Int), .int .i64 ((8 : Nat) : Int)]] :: X :: [row b113 38 (opC o')] :: G :: ZL :: ZE :: []) w121 := hA122
          refine vc_yg hF rfl rfl rfl rfl rfl (by decide) _ (y_cmp rfl rfl rfl rfl (eql_t rfl)) (fun a hF => ?_)
          refine vc_y hF rfl rfl (by decide) _ (y_pick rfl rfl rfl) (fun a hF => ?_)
          refine vc_y hF rfl rfl (by decide) _ (y_move rfl rfl) (fun a hF => ?_)
          refine vc_yg hF rfl rfl rfl rfl rfl (by decide) _ (y_move rfl rfl) (fun a hF => ?_)
          refine vc_opg hF rfl rfl rfl rfl (fun K hK => ws_call hF rfl (by decide) cl29_oc rfl rfl ?_)
          with_reducible refine (hr_left w0 _ _ rb A l2 c (q) 8 X hO hA122 (by omega) (by omega) ).mono ?_
          rintro e' w123 ⟨rfl, hA124⟩
          refine ⟨_, rfl, fun a hF => hK _ _ ?_⟩
          clear hK K
          replace hA124 : Hp w0 ([row rb 95 [.slice A l2.length c, .int .i64 ((q : Nat) : Int), .int .i64 ((8 : Nat) : Int)]] :: X :: [row b113 38 (opC o')] :: G :: ZL :: ZE :: []) w123 := hA124
          refine vc_yg hF rfl rfl rfl rfl rfl (by decide) _ (y_move rfl rfl) (fun a hF => ?_)
          refine vc_yg hF rfl rfl rfl rfl rfl (by decide) _ (y_move rfl rfl) (fun a hF => ?_)
          refine vc_yg hF rfl rfl rfl rfl rfl (by decide) _ (y_sub rfl rfl rfl (IntWalk.i64_in _ (by omega))) (fun a hF => ?_)
          refine vc_yg hF rfl rfl rfl rfl rfl (by decide) _ (y_cmp rfl rfl rfl rfl (eql_t (by omega))) (fun a hF => ?_)
          refine vc_y hF rfl rfl (by decide) _ (y_pick rfl rfl rfl) (fun a hF => ?_)
          refine vc_y hF rfl rfl (by decide) _ (y_assign rfl rfl) (fun a hF => ?_)
          refine vc_nil ?_
          refine hK39 _ _ ?_; clear  hK39 K39
          apply wp_ret
          simp only [Exit.then, Exit.inBlock]
          refine vc_ret1 hF Try.results9 rfl ?_
          exact ⟨rfl, hA124.at0⟩
        · obtain ⟨rest, hrest⟩ := hd1 (by omega)
          obtain ⟨v', hag, hal⟩ := back1 o hok.n hok.d32 hm hE rest
          rw [← hrest] at hag
          rw [hag] at hA117 hv'
          replace hA117 : Hp w0 ([row b113 38 (opC o')] :: G :: [row rb 95 [.slice A l2.length c, .int .i64 ((q + (laysL o).length : Nat) : Int), .int .i64 ((0 : Nat) : Int)]] :: X :: ZL :: ZE :: []) w116 := hA117
          refine wp_region_lit ?_
          refine vc_y hF rfl rfl (by decide) _ (y_move rfl rfl) (fun a hF => ?_)
          refine vc_y hF rfl rfl (by decide) _ (y_move rfl rfl) (fun a hF => ?_)
          refine vc_y hF rfl rfl (by decide) _ (y_ixSl rfl Try.underlying81 sz3_oc rfl rfl i rfl (by omega) (ad2 _ _ _)) (fun a hF => ?_)
          refine vc_y hF rfl rfl (by decide) _ (y_ldC (u := intV (q + (laysL o).length)) rfl (Hq.sub hA117.q (fun x hx => by rw [List.mem_singleton] at hx; subst hx; simp)) rfl hce i (by rw [List.length_map]; omega) rfl hendi nr3_oc) (fun a hF => ?_)
          refine vc_y hF rfl rfl (by decide) _ (y_move rfl rfl) (fun a hF => ?_)
          refine vc_y hF rfl rfl (by decide) _ (y_cmp rfl rfl rfl rfl (gtr_f (by omega))) (fun a hF => ?_)
          refine vc_nil ?_
          refine hK38 _ _ ?_; clear  hK38 K38
          refine vc_false hF rfl ?_
          apply wp_skip
          refine hK37 _ _ ?_; clear  hK37 K37
          apply wp_seq_k; intro K40 hK40
          apply wp_seq_k; intro K41 hK41
          refine wp_region_plan 22 [5,9,14,22] [0,1,2,3,4,5,6,7,8,9,10,11,12,13,15,16,17,18,19,20,14,21,22] (fun x => Hq w0 ([row b113 38 (opC o')] :: ZL :: ZE :: []) x) (by kernel_rfl) (by kernel_rfl) (Hq.drew (Hp.qp [[row b113 38 (opC o')], G, [row rb 95 [.slice A l2.length c, .int .i64 ((q + (laysL o).length : Nat) : Int), .int .i64 ((0 : Nat) : Int)]], X, ZL, ZE] [] [0, 4, 5] hA117)) ?_
          have hA125 := Hl.drew hA117
          refine vp_y hF rfl rfl rfl rfl (by decide) _ (fun x hx => y_move rfl rfl) (fun a hF => ?_)
          refine vp_y hF rfl rfl rfl rfl (by decide) _ (fun x hx => y_move rfl rfl) (fun a hF => ?_)
          refine vp_y hF rfl rfl rfl rfl (by decide) _ (fun x hx => y_ixSl rfl Try.underlying23 sz38_oc rfl rfl i rfl hlt rfl) (fun a hF => ?_)
          refine vp_y hF rfl rfl rfl rfl (by decide) _ (fun x hx => y_ldRowC (new := opC o) rfl (Hq.sub hx (fun x hx => by rw [List.mem_singleton] at hx; subst hx; simp)) rfl hc (i * 12) hle rfl hat rw38_oc) (fun a hF => ?_)
          refine vp_y hF rfl rfl rfl rfl (by decide) _ (fun x hx => y_ldRow (new := opC o') rfl hx rfl 0 rfl rw38_oc (by rw [show (opC o').length = 12 from rfl]; exact Nat.le_refl _) (by rw [List.drop_zero]; exact List.take_of_length_le (by rw [show (opC o').length = 12 from rfl]; exact Nat.le_refl _))) (fun a hF => ?_)
          refine vp_l rfl rfl rfl (fun K hK => ws_call hF rfl (by decide) cl40_oc rfl rfl ?_)
          with_reducible refine (op_alike w0 _ _ o o' (hok.mono (List.nil_subset _)) (hok' _ (by simp)) hA125 ).mono ?_
          rintro e' w126 ⟨rfl, hA127⟩
          refine ⟨_, rfl, fun a hF => hK _ _ (fun _ => ?_) ?_⟩
          · exact Hp.qp [[row b113 38 (opC o')], G, [row rb 95 [.slice A l2.length c, .int .i64 ((q + (laysL o).length : Nat) : Int), .int .i64 ((0 : Nat) : Int)]], X, ZL, ZE] [] [0, 4, 5] hA127
          clear hK K
          replace hA127 : Hp w0 ([row b113 38 (opC o')] :: G :: [row rb 95 [.slice A l2.length c, .int .i64 ((q + (laysL o).length : Nat) : Int), .int .i64 ((0 : Nat) : Int)]] :: X :: ZL :: ZE :: []) w126 := hA127
          rw [hal o' hv'] at hF
          refine vp_y hF rfl rfl rfl rfl (by decide) _ (fun x hx => y_not rfl rfl rfl) (fun a hF => ?_)
          refine vp_y hF rfl rfl rfl rfl (by decide) _ (fun x hx => y_move rfl rfl) (fun a hF => ?_)
          refine vp_yg hF rfl rfl rfl rfl rfl rfl rfl (by decide) _ (fun x hx => y_move rfl rfl) (fun a hF => ?_)
          have hA128 : Hp w0 ([row rb 95 [.slice A l2.length c, .int .i64 ((q + (laysL o).length : Nat) : Int), .int .i64 ((0 : Nat) : Int)]] :: X :: [row b113 38 (opC o')] :: G :: ZL :: ZE :: []) w126 := Hp.ord [[row b113 38 (opC o')], G, [row rb 95 [.slice A l2.length c, .int .i64 ((q + (laysL o).length : Nat) : Int), .int .i64 ((0 : Nat) : Int)]], X, ZL, ZE] [] [2, 3, 0, 1, 4, 5] hA127 rfl
          refine vp_lg hF rfl rfl rfl rfl rfl rfl (fun K hK => ws_call hF rfl (by decide) cl31_oc rfl rfl ?_)
          with_reducible refine (hr_why w0 _ _ rb A l2 c (q + (laysL o).length) 0 X hO hA128 ).mono ?_
          rintro e' w129 ⟨rfl, hA130⟩
          refine ⟨_, rfl, fun a hF => hK _ _ (fun _ => ?_) ?_⟩
          · exact Hp.qp [[row rb 95 [.slice A l2.length c, .int .i64 ((q + (laysL o).length : Nat) : Int), .int .i64 ((0 : Nat) : Int)]], X, [row b113 38 (opC o')], G, ZL, ZE] [] [2, 4, 5] hA130
          clear hK K
          replace hA130 : Hp w0 ([row rb 95 [.slice A l2.length c, .int .i64 ((q + (laysL o).length : Nat) : Int), .int .i64 ((0 : Nat) : Int)]] :: X :: [row b113 38 (opC o')] :: G :: ZL :: ZE :: []) w129 := hA130
          refine vp_yg hF rfl rfl rfl rfl rfl rfl rfl (by decide) _ (fun x hx => y_cmp rfl rfl rfl rfl (neq_f rfl)) (fun a hF => ?_)
          refine vp_y hF rfl rfl rfl rfl (by decide) _ (fun x hx => y_pick rfl rfl rfl) (fun a hF => ?_)
          refine vp_y hF rfl rfl rfl rfl (by decide) _ (fun x hx => y_move rfl rfl) (fun a hF => ?_)
          refine vp_yg hF rfl rfl rfl rfl rfl rfl rfl (by decide) _ (fun x hx => y_move rfl rfl) (fun a hF => ?_)
          refine vp_yg hF rfl rfl rfl rfl rfl rfl rfl (by decide) _ (fun x hx => y_move rfl rfl) (fun a hF => ?_)
          refine vp_yg hF rfl rfl rfl rfl rfl rfl rfl (by decide) _ (fun x hx => y_move rfl rfl) (fun a hF => ?_)
          refine vp_yg hF rfl rfl rfl rfl rfl rfl rfl (by decide) _ (fun x hx => y_move rfl rfl) (fun a hF => ?_)
          refine vp_yg hF rfl rfl rfl rfl rfl rfl rfl (by decide) _ (fun x hx => y_ixSl rfl Try.underlying81 sz3_oc rfl rfl i rfl (by omega) (ad2 _ _ _)) (fun a hF => ?_)
          refine vp_yg hF rfl rfl rfl rfl rfl rfl rfl (by decide) _ (fun x hx => y_ldC (u := intV (q + (laysL o).length)) rfl (Hq.sub hx (fun x hx => by rw [List.mem_singleton] at hx; subst hx; simp)) rfl hce i (by rw [List.length_map]; omega) rfl hendi nr3_oc) (fun a hF => ?_)
          refine vp_yg hF rfl rfl rfl rfl rfl rfl rfl (by decide) _ (fun x hx => y_sub rfl rfl rfl (IntWalk.i64_in _ (by omega))) (fun a hF => ?_)
          refine vp_lg hF rfl rfl rfl rfl rfl rfl (fun K hK => ws_call hF rfl (by decide) cl29_oc rfl rfl ?_)
          with_reducible refine (hr_left w0 _ _ rb A l2 c (q + (laysL o).length) 0 X hO hA130 (by omega) (by omega) ).mono ?_
          rintro e' w131 ⟨rfl, hA132⟩
          refine ⟨_, rfl, fun a hF => hK _ _ (fun _ => ?_) ?_⟩
          · exact Hp.qp [[row rb 95 [.slice A l2.length c, .int .i64 ((q + (laysL o).length : Nat) : Int), .int .i64 ((0 : Nat) : Int)]], X, [row b113 38 (opC o')], G, ZL, ZE] [] [2, 4, 5] hA132
          clear hK K
          replace hA132 : Hp w0 ([row rb 95 [.slice A l2.length c, .int .i64 ((q + (laysL o).length : Nat) : Int), .int .i64 ((0 : Nat) : Int)]] :: X :: [row b113 38 (opC o')] :: G :: ZL :: ZE :: []) w131 := hA132
          refine vp_yg hF rfl rfl rfl rfl rfl rfl rfl (by decide) _ (fun x hx => y_cmp rfl rfl rfl rfl (neq_f (by omega))) (fun a hF => ?_)
          refine vp_ly hF rfl rfl rfl rfl (by decide) _ (y_pick rfl rfl rfl) (fun h => absurd h (by decide)) (fun a hF => ?_)
          refine plan_end ?_
          refine hK41 _ _ ?_; clear  hK41 K41
          refine vc_false hF rfl ?_
          apply wp_skip
          refine hK40 _ _ ?_; clear  hK40 K40
          refine wp_region_lit ?_
          refine vc_y hF rfl rfl (by decide) _ (y_move rfl rfl) (fun a hF => ?_)
          refine vc_y hF rfl rfl (by decide) _ (y_move rfl rfl) (fun a hF => ?_)
          refine vc_y hF rfl rfl (by decide) _ (y_ixSl rfl Try.underlying81 sz3_oc rfl rfl i rfl (by omega) (ad2 _ _ _)) (fun a hF => ?_)
          refine vc_y hF rfl rfl (by decide) _ (y_ldC (u := intV (q + (laysL o).length)) rfl (Hq.sub hA132.q (fun x hx => by rw [List.mem_singleton] at hx; subst hx; simp)) rfl hce i (by rw [List.length_map]; omega) rfl hendi nr3_oc) (fun a hF => ?_)
          refine vc_y hF rfl rfl (by decide) _ (y_assign rfl rfl) (fun a hF => ?_)
          refine vc_nil ?_
          refine hK35 _ _ ?_; clear  hK35 K35
          refine wp_region_lit ?_
          refine vc_y hF rfl rfl (by decide) _ (y_move rfl rfl) (fun a hF => ?_)
          refine vc_y hF rfl rfl (by decide) _ (y_add rfl rfl rfl (IntWalk.i64_in _ (by omega))) (fun a hF => ?_)
          refine vc_y hF rfl rfl (by decide) _ (y_assign rfl rfl) (fun a hF => ?_)
          refine vc_nil ?_
          have hA133 : Hp w0 ([row rb 95 [.slice A l2.length c, .int .i64 ((q + (laysL o).length : Nat) : Int), .int .i64 ((0 : Nat) : Int)]] :: X :: ZL :: ZE :: []) w131 := Hp.sel [[row rb 95 [.slice A l2.length c, .int .i64 ((q + (laysL o).length : Nat) : Int), .int .i64 ((0 : Nat) : Int)]], X, [row b113 38 (opC o')], G, ZL, ZE] [] [0, 1, 4, 5] [2, 3] hA132 rfl
          exact ⟨i + 1, by omega, q + (laysL o).length, by omega, hend.symm, by omega, hF.keep [14, 13, 6, 7, 11, 12] rfl, hA133⟩
      · refine vc_falseB hF rfl (lss_f (by omega)) ?_
        obtain rfl : i = L.length := by omega
        rw [List.take_length, ← hl] at hq
        exact absurd hnl (by omega)
end Go.Proofs.Ythphfbohhbkdgaa
