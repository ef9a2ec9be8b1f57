/- The statement about writers: the row of writers. -/
import Derived.Test.YthphfbohhbkdgaaWs
import Derived.Test.YthphfbohhbkdgaaOpsLaw0
import Derived.Test.YthphfbohhbkdgaaBook3
namespace Go.Proofs.Ythphfbohhbkdgaa
open Go.RowKit Go.Dk
theorem nr3_wt : notRow Try.prog 3 = true := by kernel_rfl
theorem nr26_wt : notRow Try.prog 26 = true := by kernel_rfl
theorem nr27_wt : notRow Try.prog 27 = true := by kernel_rfl
theorem nr35_wt : notRow Try.prog 35 = true := by kernel_rfl
theorem nr46_wt : notRow Try.prog 46 = true := by kernel_rfl
theorem rw38_wt : isRow Try.prog 38 12 = true := by kernel_rfl
theorem sz3_wt : (Try.prog.info? 3).map (·.size) = some 1 := by kernel_rfl
theorem sz26_wt : (Try.prog.info? 26).map (·.size) = some 1 := by kernel_rfl
theorem sz27_wt : (Try.prog.info? 27).map (·.size) = some 1 := by kernel_rfl
theorem sz29_wt : (Try.prog.info? 29).map (·.size) = some 4 := by kernel_rfl
theorem sz35_wt : (Try.prog.info? 35).map (·.size) = some 1 := by kernel_rfl
theorem sz46_wt : (Try.prog.info? 46).map (·.size) = some 1 := by kernel_rfl
theorem cl14_wt : CallsTo Try.prog 14 := ⟨_, Try.func14, by kernel_rfl, by kernel_rfl⟩
theorem cl21_wt : CallsTo Try.prog 21 := ⟨_, Try.func21, by kernel_rfl, by kernel_rfl⟩
theorem cl22_wt : CallsTo Try.prog 22 := ⟨_, Try.func22, by kernel_rfl, by kernel_rfl⟩
theorem cl23_wt : CallsTo Try.prog 23 := ⟨_, Try.func23, by kernel_rfl, by kernel_rfl⟩
theorem cl43_wt : CallsTo Try.prog 43 := ⟨_, Try.func43, by kernel_rfl, by kernel_rfl⟩
theorem cl47_wt : CallsTo Try.prog 47 := ⟨_, Try.func47, by kernel_rfl, by kernel_rfl⟩
theorem cl48_wt : CallsTo Try.prog 48 := ⟨_, Try.func48, by kernel_rfl, by kernel_rfl⟩
theorem cl49_wt : CallsTo Try.prog 49 := ⟨_, Try.func49, by kernel_rfl, by kernel_rfl⟩


def withinI (n lo hi : Int) : Int := lo + n.emod (hi - lo + 1)
theorem within_key (n m : Int) (hm : 0 < m) : -m < n.tmod m ∧ n.tmod m < m ∧ n.emod m = if n.tmod m < 0 then n.tmod m + m else n.tmod m := by
  have h1 := Int.tmod_lt_of_pos n hm
  have h2 := Int.emod_nonneg n (show m ≠ 0 by omega)
  have h3 := Int.emod_lt_of_pos n hm
  have h4 := Int.mul_tdiv_add_tmod n m
  have h5 := Int.mul_ediv_add_emod n m
  have h6 : -m < n.tmod m := by
    have := Int.tmod_lt_of_pos (-n) hm
    rw [Int.neg_tmod] at this
    omega
  refine ⟨h6, h1, ?_⟩
  have h7 : m * (n / m - n.tdiv m) = n.tmod m - n.emod m := by
    rw [Int.mul_sub]
    have : n.emod m = n % m := rfl
    rw [this]
    omega
  have h8 : n.emod m = n % m := rfl
  split
  · have h9 : n / m - n.tdiv m = -1 := by
      have a1 : m * (n / m - n.tdiv m) < 0 := by omega
      have a2 : -(2 * m) < m * (n / m - n.tdiv m) := by omega
      have a3 : n / m - n.tdiv m < 0 := by
        rcases Int.lt_or_le (n / m - n.tdiv m) 0 with h | h
        · exact h
        · have := Int.mul_nonneg (Int.le_of_lt hm) h; omega
      have a4 : -2 < n / m - n.tdiv m := by
        rcases Int.lt_or_le (-2) (n / m - n.tdiv m) with h | h
        · exact h
        · have := Int.mul_le_mul_of_nonneg_left h (Int.le_of_lt hm); omega
      omega
    rw [h9] at h7
    omega
  · have h9 : n / m - n.tdiv m = 0 := by
      have a1 : -m < m * (n / m - n.tdiv m) := by omega
      have a2 : m * (n / m - n.tdiv m) < m := by omega
      have a3 : n / m - n.tdiv m < 1 := by
        rcases Int.lt_or_le (n / m - n.tdiv m) 1 with h | h
        · exact h
        · have := Int.mul_le_mul_of_nonneg_left h (Int.le_of_lt hm); omega
      have a4 : -1 < n / m - n.tdiv m := by
        rcases Int.lt_or_le (-1) (n / m - n.tdiv m) with h | h
        · exact h
        · have := Int.mul_le_mul_of_nonneg_left h (Int.le_of_lt hm); omega
      omega
    rw [h9] at h7
    omega
theorem within_le (n lo hi : Int) (h : lo ≤ hi) : lo ≤ withinI n lo hi ∧ withinI n lo hi ≤ hi := by
  have h2 := Int.emod_nonneg n (show hi - lo + 1 ≠ 0 by omega)
  have h3 := Int.emod_lt_of_pos n (show 0 < hi - lo + 1 by omega)
  unfold withinI
  have h4 : n.emod (hi - lo + 1) = n % (hi - lo + 1) := rfl
  omega

set_option maxRecDepth 100000 in
set_option maxHeartbeats 4000000 in
theorem bk_within (w : World) (n lo hi : Int) (h0 : 0 ≤ lo) (h1 : lo ≤ hi) (h2 : hi < 2305843009213693952) : Calls Try.prog 43 #[.int .i64 n, .int .i64 lo, .int .i64 hi] w fun e w' => e = .returned (.int .i64 (withinI n lo hi)) ∧ w = w' := by
  obtain ⟨k1, k2, k3⟩ := within_key n (hi - lo + 1) (by omega)
  have k4 : withinI n lo hi = lo + n.emod (hi - lo + 1) := rfl
  generalize hq : n.tmod (hi - lo + 1) = q at *
  refine vc_enter Try.func43 rfl Try.ntmps43 (Nat.le_of_ble_eq_true rfl) (fun a hF => ?_)
  apply wp_seq_k; intro K1 hK1
  refine wp_region_lit ?_
  refine vc_y hF rfl rfl (by decide) _ (y_assign rfl rfl) (fun a hF => ?_)
  refine vc_nil ?_
  refine hK1 _ _ ?_; clear  hK1 K1
  apply wp_seq_k; intro K2 hK2
  refine wp_region_lit ?_
  refine vc_y hF rfl rfl (by decide) _ (y_move rfl rfl) (fun a hF => ?_)
  refine vc_y hF rfl rfl (by decide) _ (y_move rfl rfl) (fun a hF => ?_)
  refine vc_y hF rfl rfl (by decide) _ (y_move rfl rfl) (fun a hF => ?_)
  refine vc_y hF rfl rfl (by decide) _ (y_sub rfl rfl rfl (IntWalk.i64_in _ (by omega))) (fun a hF => ?_)
  refine vc_y hF rfl rfl (by decide) _ (y_add rfl rfl rfl (IntWalk.i64_in _ (by omega))) (fun a hF => ?_)
  refine vc_y hF rfl rfl (by decide) _ (y_rem rfl rfl rfl (by omega) hq) (fun a hF => ?_)
  refine vc_y hF rfl rfl (by decide) _ (y_assign rfl rfl) (fun a hF => ?_)
  refine vc_nil ?_
  refine hK2 _ _ ?_; clear  hK2 K2
  apply wp_seq_k; intro K3 hK3
  apply wp_seq_k; intro K4 hK4
  refine wp_region_lit ?_
  refine vc_y hF rfl rfl (by decide) _ (y_move rfl rfl) (fun a hF => ?_)
  refine vc_y hF rfl rfl (by decide) _ (y_cmp rfl rfl rfl rfl rfl) (fun a hF => ?_)
  refine vc_nil ?_
  refine hK4 _ _ ?_; clear  hK4 K4
  by_cases hneg : q < 0
  · refine vc_trueB hF rfl (lss_t hneg) ?_
    refine wp_region_lit ?_
    refine vc_y hF rfl rfl (by decide) _ (y_move rfl rfl) (fun a hF => ?_)
    refine vc_y hF rfl rfl (by decide) _ (y_move rfl rfl) (fun a hF => ?_)
    refine vc_y hF rfl rfl (by decide) _ (y_add rfl rfl rfl (IntWalk.i64_in _ (by omega))) (fun a hF => ?_)
    refine vc_y hF rfl rfl (by decide) _ (y_move rfl rfl) (fun a hF => ?_)
    refine vc_y hF rfl rfl (by decide) _ (y_sub rfl rfl rfl (IntWalk.i64_in _ (by omega))) (fun a hF => ?_)
    refine vc_y hF rfl rfl (by decide) _ (y_add rfl rfl rfl (IntWalk.i64_in _ (by omega))) (fun a hF => ?_)
    refine vc_y hF rfl rfl (by decide) _ (y_assign rfl rfl) (fun a hF => ?_)
    refine vc_nil ?_
    refine hK3 _ _ ?_; clear  hK3 K3
    apply wp_seq_k; intro K5 hK5
    refine wp_region_lit ?_
    refine vc_y hF rfl rfl (by decide) _ (y_move rfl rfl) (fun a hF => ?_)
    refine vc_y hF rfl rfl (by decide) _ (y_move rfl rfl) (fun a hF => ?_)
    refine vc_y hF rfl rfl (by decide) _ (y_add rfl rfl rfl (show IntKind.i64.wrap _ = withinI n lo hi by rw [IntWalk.i64_in _ (by omega), k4, k3]; first | rw [if_pos hneg]; omega | rw [if_neg hneg])) (fun a hF => ?_)
    refine vc_y hF rfl rfl (by decide) _ (y_assign rfl rfl) (fun a hF => ?_)
    refine vc_nil ?_
    refine hK5 _ _ ?_; clear  hK5 K5
    apply wp_ret
    refine vc_ret1 hF Try.results43 rfl ?_
    exact ⟨rfl, rfl⟩
  · refine vc_falseB hF rfl (lss_f (by omega)) ?_
    apply wp_skip
    refine hK3 _ _ ?_; clear  hK3 K3
    apply wp_seq_k; intro K6 hK6
    refine wp_region_lit ?_
    refine vc_y hF rfl rfl (by decide) _ (y_move rfl rfl) (fun a hF => ?_)
    refine vc_y hF rfl rfl (by decide) _ (y_move rfl rfl) (fun a hF => ?_)
    refine vc_y hF rfl rfl (by decide) _ (y_add rfl rfl rfl (show IntKind.i64.wrap _ = withinI n lo hi by rw [IntWalk.i64_in _ (by omega), k4, k3]; first | rw [if_pos hneg]; omega | rw [if_neg hneg])) (fun a hF => ?_)
    refine vc_y hF rfl rfl (by decide) _ (y_assign rfl rfl) (fun a hF => ?_)
    refine vc_nil ?_
    refine hK6 _ _ ?_; clear  hK6 K6
    apply wp_ret
    refine vc_ret1 hF Try.results43 rfl ?_
    exact ⟨rfl, rfl⟩

theorem strB_eql_t (l : List UInt8) : strB .eql l l = true := by unfold strB; exact beq_self_eq_true l
/-- a writer, and what it is to hold -/
structure WX where
  wb : Nat
  l : List UInt8
  Y : Seg
  iv : Value
  Z : Seg
def wxP (q : WX) : Value := .pointer (some ⟨q.wb, 0, none⟩)
def wxS (q : WX) : Seg := q.Y ++ q.Z
def WXok (T : Nat) (q : WX) : Prop := (WrS q.wb q.l q.Y ∧ Buf 5 1 q.Z q.iv q.l.length (dc q.l)) ∧ q.l.length ≤ T
/-- the row: n writers that hold at most T bytes each, and the book -/
def RowOK (rb n T : Nat) (Y : Seg) : Prop := ∃ (qs : List WX) (wsv isv lv wv : Value) (held : Int) (ks : List (KeptX UInt8)) (XW XI YB : Seg), qs.length = n ∧ (∀ q ∈ qs, WXok T q) ∧ Buf 46 1 XW wsv qs.length (qs.map wxP) ∧ Buf 35 1 XI isv qs.length (qs.map (·.iv)) ∧ BookV cB 35 5 1 ks lv wv YB ∧ Y = row rb 31 [wsv, isv, lv, wv, .int .i64 held, .bool false] :: (XW ++ (XI ++ (YB ++ (qs.map wxS).flatten)))

set_option maxRecDepth 100000 in
set_option maxHeartbeats 4000000 in
theorem wt_tells (w0 w : World) (R : List Seg) (rb n T i : Nat) (Y : Seg) (hrow : RowOK rb n T Y) (hi0 : i < n) (hA : Hp w0 (Y :: R) w) (hT : T < 140737488353000) : Calls Try.prog 14 #[.pointer (some ⟨rb, 0, none⟩), .int .i64 (i : Int)] w fun e w' => ∃ Y', e = .returned (.bool true) ∧ RowOK rb n T Y' ∧ Hp w0 (Y' :: R) w' := by

  obtain ⟨qs, wsv, isv, lv, wv, held, ks, XW, XI, YB, hn0, hqs, hW, hI, hB, rfl⟩ := hrow
  replace hA : Hp w0 ([row rb 31 [wsv, isv, lv, wv, .int .i64 held, .bool false]] :: XW :: XI :: YB :: (qs.map wxS).flatten :: R) w := hA.cast (by simp)
  have hi : i < qs.length := by omega
  obtain ⟨⟨wb, l, Yq, iv, Zq⟩, hq⟩ : ∃ q, qs[i]? = some q := ⟨_, List.getElem?_eq_getElem (by omega)⟩
  obtain ⟨⟨hYq, hZq⟩, hlT⟩ : (WrS wb l Yq ∧ Buf 5 1 Zq iv l.length (dc l)) ∧ l.length ≤ T := hqs _ (List.mem_of_getElem? hq)
  obtain ⟨AI, cI, rfl, hcI⟩ := hZq.slice
  have hqW : (qs.map wxP)[i]? = some (.pointer (some ⟨wb, 0, none⟩)) := by rw [List.getElem?_map, hq]; rfl
  have hqI : (qs.map (·.iv))[i]? = some (.slice AI l.length cI) := by rw [List.getElem?_map, hq]; rfl
  have hqS : (qs.map wxS)[i]? = some (Yq ++ Zq) := by rw [List.getElem?_map, hq]; rfl
  have hiW : i < (qs.map wxP).length := by rw [List.length_map]; omega
  have hiI : i < (qs.map (·.iv)).length := by rw [List.length_map]; omega
  obtain ⟨AW, cW, rfl, _, hRW⟩ := hW.rc (w0 := w0) (R := [XW]) (List.mem_cons_self ..)
  obtain ⟨bW, pW, rfl, hcW⟩ := hRW.ne (i := i) hiW
  have hA1 : Hp w0 ((qs.map wxS).flatten :: [row rb 31 [.slice (some ⟨bW, pW, none⟩) qs.length cW, isv, lv, wv, .int .i64 held, .bool false]] :: XW :: XI :: YB :: R) w := Hp.ord [[row rb 31 [.slice (some ⟨bW, pW, none⟩) qs.length cW, isv, lv, wv, .int .i64 held, .bool false]], XW, XI, YB, (qs.map wxS).flatten] R [4, 0, 1, 2, 3] hA rfl
  have hA2 : Hp w0 (Yq :: Zq :: (((qs.map wxS).eraseIdx i).flatten) :: [row rb 31 [.slice (some ⟨bW, pW, none⟩) qs.length cW, isv, lv, wv, .int .i64 held, .bool false]] :: XW :: XI :: YB :: R) w := (hA1.outS hqS).part
  obtain ⟨AJ, cJ, rfl, _, hRI⟩ := hI.rc (w0 := w0) (R := [XI]) (List.mem_cons_self ..)
  obtain ⟨bI, pI, rfl, hcI2⟩ := hRI.ne (i := i) hiI

  refine vc_enter Try.func14 rfl Try.ntmps14 (Nat.le_of_ble_eq_true rfl) (fun a hF => ?_)
  apply wp_seq_k; intro K1 hK1
  refine wp_region_lit ?_
  refine vc_y hF rfl rfl (by decide) _ (y_assign rfl rfl) (fun a hF => ?_)
  refine vc_nil ?_
  refine hK1 _ _ ?_; clear  hK1 K1
  apply wp_seq_k; intro K2 hK2
  refine wp_region_lit ?_
  refine vc_y hF rfl rfl (by decide) _ (y_move rfl rfl) (fun a hF => ?_)
  refine vc_y hF rfl rfl (by decide) _ (y_nilCheck rfl rfl) (fun a hF => ?_)
  refine vc_y hF rfl rfl (by decide) _ (y_field rfl Try.underlying31 rfl sz26_wt (by decide) rfl (rfl : (⟨_, 0 + _, none⟩ : Addr) = ⟨_, 0, none⟩)) (fun a hF => ?_)
  refine vc_y hF rfl rfl (by decide) _ (y_ld rfl hA2.q rfl 3 rfl rfl nr26_wt) (fun a hF => ?_)
  refine vc_y hF rfl rfl (by decide) _ (y_move rfl rfl) (fun a hF => ?_)
  refine vc_y hF rfl rfl (by decide) _ (y_ixSl rfl Try.underlying26 sz46_wt rfl rfl i rfl hi (ad2 _ _ _)) (fun a hF => ?_)
  refine vc_y hF rfl rfl (by decide) _ (y_ldC (u := .pointer (some ⟨wb, 0, none⟩)) rfl (Hq.sub hA2.q (sub1 (.tail _ (.tail _ (.tail _ (.tail _ (.head _))))))) rfl hcW i hiW rfl hqW nr46_wt) (fun a hF => ?_)
  refine vc_op rfl (fun K hK => ws_call hF rfl (by decide) cl23_wt rfl rfl ?_)
  with_reducible refine (hw_all w0 _ _ wb l Yq hYq hA2 (by omega) ).mono ?_
  rintro e' w3 ⟨v1, Z1, Y1, rfl, hZ1, hY1, hA4⟩
  refine ⟨_, rfl, fun a hF => hK _ _ ?_⟩
  clear hK K
  replace hA4 : Hp w0 (Z1 :: Y1 :: Zq :: (((qs.map wxS).eraseIdx i).flatten) :: [row rb 31 [.slice (some ⟨bW, pW, none⟩) qs.length cW, .slice (some ⟨bI, pI, none⟩) qs.length cJ, lv, wv, .int .i64 held, .bool false]] :: XW :: XI :: YB :: R) w3 := hA4
  obtain ⟨A1, c1, rfl, _⟩ := hZ1.slice
  refine vc_y hF rfl rfl (by decide) _ (y_assign rfl rfl) (fun a hF => ?_)
  refine vc_nil ?_
  refine hK2 _ _ ?_; clear  hK2 K2
  apply wp_seq_k; intro K3 hK3
  refine wp_region_lit ?_
  refine vc_y hF rfl rfl (by decide) _ (y_move rfl rfl) (fun a hF => ?_)
  refine vc_y hF rfl rfl (by decide) _ (y_nilCheck rfl rfl) (fun a hF => ?_)
  refine vc_y hF rfl rfl (by decide) _ (y_field rfl Try.underlying31 rfl sz26_wt (by decide) rfl (rfl : (⟨_, 0 + _, none⟩ : Addr) = ⟨_, 0, none⟩)) (fun a hF => ?_)
  refine vc_y hF rfl rfl (by decide) _ (y_ld rfl hA4.q rfl 4 rfl rfl nr26_wt) (fun a hF => ?_)
  refine vc_y hF rfl rfl (by decide) _ (y_move rfl rfl) (fun a hF => ?_)
  refine vc_y hF rfl rfl (by decide) _ (y_ixSl rfl Try.underlying26 sz46_wt rfl rfl i rfl hi (ad2 _ _ _)) (fun a hF => ?_)
  refine vc_y hF rfl rfl (by decide) _ (y_ldC (u := .pointer (some ⟨wb, 0, none⟩)) rfl (Hq.sub hA4.q (sub1 (.tail _ (.tail _ (.tail _ (.tail _ (.tail _ (.head _)))))))) rfl hcW i hiW rfl hqW nr46_wt) (fun a hF => ?_)
  have hA5 : Hp w0 (Y1 :: Z1 :: Zq :: (((qs.map wxS).eraseIdx i).flatten) :: [row rb 31 [.slice (some ⟨bW, pW, none⟩) qs.length cW, .slice (some ⟨bI, pI, none⟩) qs.length cJ, lv, wv, .int .i64 held, .bool false]] :: XW :: XI :: YB :: R) w3 := Hp.ord [Z1, Y1, Zq, (((qs.map wxS).eraseIdx i).flatten), [row rb 31 [.slice (some ⟨bW, pW, none⟩) qs.length cW, .slice (some ⟨bI, pI, none⟩) qs.length cJ, lv, wv, .int .i64 held, .bool false]], XW, XI, YB] R [1, 0, 2, 3, 4, 5, 6, 7] hA4 rfl
  refine vc_op rfl (fun K hK => ws_call hF rfl (by decide) cl23_wt rfl rfl ?_)
  with_reducible refine (hw_all w0 _ _ wb l Y1 hY1 hA5 (by omega) ).mono ?_
  rintro e' w6 ⟨v2, Z2, Y2, rfl, hZ2, hY2, hA7⟩
  refine ⟨_, rfl, fun a hF => hK _ _ ?_⟩
  clear hK K
  replace hA7 : Hp w0 (Z2 :: Y2 :: Z1 :: Zq :: (((qs.map wxS).eraseIdx i).flatten) :: [row rb 31 [.slice (some ⟨bW, pW, none⟩) qs.length cW, .slice (some ⟨bI, pI, none⟩) qs.length cJ, lv, wv, .int .i64 held, .bool false]] :: XW :: XI :: YB :: R) w6 := hA7
  obtain ⟨A2, c2, rfl, _⟩ := hZ2.slice
  refine vc_y hF rfl rfl (by decide) _ (y_assign rfl rfl) (fun a hF => ?_)
  refine vc_nil ?_
  refine hK3 _ _ ?_; clear  hK3 K3
  apply wp_seq_k; intro K4 hK4
  obtain ⟨_, hRZ1⟩ : True ∧ Rd w0 [Z1] A1 l := ⟨trivial, by obtain ⟨_, _, _, e1, _, h1⟩ := hZ1.rd (w0 := w0) (R := [Z1]) (List.mem_cons_self ..); injection e1 with e1 _ _; rw [e1]; exact h1⟩
  obtain ⟨_, hRZ2⟩ : True ∧ Rd w0 [Z2] A2 l := ⟨trivial, by obtain ⟨_, _, _, e1, _, h1⟩ := hZ2.rd (w0 := w0) (R := [Z2]) (List.mem_cons_self ..); injection e1 with e1 _ _; rw [e1]; exact h1⟩
  obtain ⟨_, hRZQ⟩ : True ∧ Rd w0 [Zq] AI l := ⟨trivial, by obtain ⟨_, _, _, e1, _, h1⟩ := hZq.rd (w0 := w0) (R := [Zq]) (List.mem_cons_self ..); injection e1 with e1 _ _; rw [e1]; exact h1⟩
  refine wp_region_plan 43 [32,43] [0,1,2,3,4,5,6,7,8,9,10,11,12,13,14,15,16,17,18,19,20,21,22,23,24,25,26,27,28,29,30,31,33,34,35,36,37,38,39,40,32,41,42,43] (fun x => Hq w0 (Z2 :: Y2 :: Z1 :: Zq :: (((qs.map wxS).eraseIdx i).flatten) :: [row rb 31 [.slice (some ⟨bW, pW, none⟩) qs.length cW, .slice (some ⟨bI, pI, none⟩) qs.length cJ, lv, wv, .int .i64 held, .bool false]] :: XW :: XI :: YB :: R) x) (by kernel_rfl) (by kernel_rfl) (Hq.drew (Hp.qp [Z2, Y2, Z1, Zq, (((qs.map wxS).eraseIdx i).flatten), [row rb 31 [.slice (some ⟨bW, pW, none⟩) qs.length cW, .slice (some ⟨bI, pI, none⟩) qs.length cJ, lv, wv, .int .i64 held, .bool false]], XW, XI, YB] R [0, 1, 2, 3, 4, 5, 6, 7, 8] hA7)) ?_
  have hA8 := Hl.drew hA7
  refine vp_y hF rfl rfl rfl rfl (by decide) _ (fun x hx => y_move rfl rfl) (fun a hF => ?_)
  refine vp_y hF rfl rfl rfl rfl (by decide) _ (fun x hx => y_convStr (l := l) rfl Try.underlying35 Try.underlying5 Try.underlying9 rfl rfl (hRZ1.bts (Hq.sub hx (sub1 (.tail _ (.tail _ (.head _))))))) (fun a hF => ?_)
  refine vp_y hF rfl rfl rfl rfl (by decide) _ (fun x hx => y_move rfl rfl) (fun a hF => ?_)
  refine vp_y hF rfl rfl rfl rfl (by decide) _ (fun x hx => y_nilCheck rfl rfl) (fun a hF => ?_)
  refine vp_y hF rfl rfl rfl rfl (by decide) _ (fun x hx => y_field rfl Try.underlying31 rfl sz27_wt (by decide) rfl (rfl : (⟨_, 0 + _, none⟩ : Addr) = ⟨_, 1, none⟩)) (fun a hF => ?_)
  refine vp_y hF rfl rfl rfl rfl (by decide) _ (fun x hx => y_ld rfl hx rfl 5 rfl rfl nr27_wt) (fun a hF => ?_)
  refine vp_y hF rfl rfl rfl rfl (by decide) _ (fun x hx => y_move rfl rfl) (fun a hF => ?_)
  refine vp_y hF rfl rfl rfl rfl (by decide) _ (fun x hx => y_ixSl rfl Try.underlying27 sz35_wt rfl rfl i rfl hi (ad2 _ _ _)) (fun a hF => ?_)
  refine vp_y hF rfl rfl rfl rfl (by decide) _ (fun x hx => y_ldC (u := .slice AI l.length cI) rfl (Hq.sub hx (sub1 (.tail _ (.tail _ (.tail _ (.tail _ (.tail _ (.tail _ (.tail _ (.head _)))))))))) rfl hcI2 i hiI rfl hqI nr35_wt) (fun a hF => ?_)
  refine vp_y hF rfl rfl rfl rfl (by decide) _ (fun x hx => y_convStr (l := l) rfl Try.underlying35 Try.underlying5 Try.underlying9 rfl rfl (hRZQ.bts (Hq.sub hx (sub1 (.tail _ (.tail _ (.tail _ (.head _)))))))) (fun a hF => ?_)
  refine vp_y hF rfl rfl rfl rfl (by decide) _ (fun x hx => y_cmpS rfl rfl rfl rfl (strB_eql_t _)) (fun a hF => ?_)
  refine vp_y hF rfl rfl rfl rfl (by decide) _ (fun x hx => y_move rfl rfl) (fun a hF => ?_)
  refine vp_yg hF rfl rfl rfl rfl rfl rfl rfl (by decide) _ (fun x hx => y_move rfl rfl) (fun a hF => ?_)
  refine vp_yg hF rfl rfl rfl rfl rfl rfl rfl (by decide) _ (fun x hx => y_convStr (l := l) rfl Try.underlying35 Try.underlying5 Try.underlying9 rfl rfl (hRZ2.bts (Hq.sub hx (sub1 (.head _))))) (fun a hF => ?_)
  refine vp_yg hF rfl rfl rfl rfl rfl rfl rfl (by decide) _ (fun x hx => y_move rfl rfl) (fun a hF => ?_)
  refine vp_yg hF rfl rfl rfl rfl rfl rfl rfl (by decide) _ (fun x hx => y_nilCheck rfl rfl) (fun a hF => ?_)
  refine vp_yg hF rfl rfl rfl rfl rfl rfl rfl (by decide) _ (fun x hx => y_field rfl Try.underlying31 rfl sz27_wt (by decide) rfl (rfl : (⟨_, 0 + _, none⟩ : Addr) = ⟨_, 1, none⟩)) (fun a hF => ?_)
  refine vp_yg hF rfl rfl rfl rfl rfl rfl rfl (by decide) _ (fun x hx => y_ld rfl hx rfl 5 rfl rfl nr27_wt) (fun a hF => ?_)
  refine vp_yg hF rfl rfl rfl rfl rfl rfl rfl (by decide) _ (fun x hx => y_move rfl rfl) (fun a hF => ?_)
  refine vp_yg hF rfl rfl rfl rfl rfl rfl rfl (by decide) _ (fun x hx => y_ixSl rfl Try.underlying27 sz35_wt rfl rfl i rfl hi (ad2 _ _ _)) (fun a hF => ?_)
  refine vp_yg hF rfl rfl rfl rfl rfl rfl rfl (by decide) _ (fun x hx => y_ldC (u := .slice AI l.length cI) rfl (Hq.sub hx (sub1 (.tail _ (.tail _ (.tail _ (.tail _ (.tail _ (.tail _ (.tail _ (.head _)))))))))) rfl hcI2 i hiI rfl hqI nr35_wt) (fun a hF => ?_)
  refine vp_yg hF rfl rfl rfl rfl rfl rfl rfl (by decide) _ (fun x hx => y_convStr (l := l) rfl Try.underlying35 Try.underlying5 Try.underlying9 rfl rfl (hRZQ.bts (Hq.sub hx (sub1 (.tail _ (.tail _ (.tail _ (.head _)))))))) (fun a hF => ?_)
  refine vp_yg hF rfl rfl rfl rfl rfl rfl rfl (by decide) _ (fun x hx => y_cmpS rfl rfl rfl rfl (strB_eql_t _)) (fun a hF => ?_)
  refine vp_y hF rfl rfl rfl rfl (by decide) _ (fun x hx => y_pick rfl rfl rfl) (fun a hF => ?_)
  refine vp_y hF rfl rfl rfl rfl (by decide) _ (fun x hx => y_move rfl rfl) (fun a hF => ?_)
  refine vp_yg hF rfl rfl rfl rfl rfl rfl rfl (by decide) _ (fun x hx => y_move rfl rfl) (fun a hF => ?_)
  refine vp_yg hF rfl rfl rfl rfl rfl rfl rfl (by decide) _ (fun x hx => y_nilCheck rfl rfl) (fun a hF => ?_)
  refine vp_yg hF rfl rfl rfl rfl rfl rfl rfl (by decide) _ (fun x hx => y_field rfl Try.underlying31 rfl sz26_wt (by decide) rfl (rfl : (⟨_, 0 + _, none⟩ : Addr) = ⟨_, 0, none⟩)) (fun a hF => ?_)
  refine vp_yg hF rfl rfl rfl rfl rfl rfl rfl (by decide) _ (fun x hx => y_ld rfl hx rfl 5 rfl rfl nr26_wt) (fun a hF => ?_)
  refine vp_yg hF rfl rfl rfl rfl rfl rfl rfl (by decide) _ (fun x hx => y_move rfl rfl) (fun a hF => ?_)
  refine vp_yg hF rfl rfl rfl rfl rfl rfl rfl (by decide) _ (fun x hx => y_ixSl rfl Try.underlying26 sz46_wt rfl rfl i rfl hi (ad2 _ _ _)) (fun a hF => ?_)
  refine vp_yg hF rfl rfl rfl rfl rfl rfl rfl (by decide) _ (fun x hx => y_ldC (u := .pointer (some ⟨wb, 0, none⟩)) rfl (Hq.sub hx (sub1 (.tail _ (.tail _ (.tail _ (.tail _ (.tail _ (.tail _ (.head _))))))))) rfl hcW i hiW rfl hqW nr46_wt) (fun a hF => ?_)
  refine vp_yg hF rfl rfl rfl rfl rfl rfl rfl (by decide) _ (fun x hx => y_move rfl rfl) (fun a hF => ?_)
  refine vp_yg hF rfl rfl rfl rfl rfl rfl rfl (by decide) _ (fun x hx => y_nilCheck rfl rfl) (fun a hF => ?_)
  refine vp_yg hF rfl rfl rfl rfl rfl rfl rfl (by decide) _ (fun x hx => y_field rfl Try.underlying31 rfl sz27_wt (by decide) rfl (rfl : (⟨_, 0 + _, none⟩ : Addr) = ⟨_, 1, none⟩)) (fun a hF => ?_)
  refine vp_yg hF rfl rfl rfl rfl rfl rfl rfl (by decide) _ (fun x hx => y_ld rfl hx rfl 5 rfl rfl nr27_wt) (fun a hF => ?_)
  refine vp_yg hF rfl rfl rfl rfl rfl rfl rfl (by decide) _ (fun x hx => y_move rfl rfl) (fun a hF => ?_)
  refine vp_yg hF rfl rfl rfl rfl rfl rfl rfl (by decide) _ (fun x hx => y_ixSl rfl Try.underlying27 sz35_wt rfl rfl i rfl hi (ad2 _ _ _)) (fun a hF => ?_)
  refine vp_yg hF rfl rfl rfl rfl rfl rfl rfl (by decide) _ (fun x hx => y_ldC (u := .slice AI l.length cI) rfl (Hq.sub hx (sub1 (.tail _ (.tail _ (.tail _ (.tail _ (.tail _ (.tail _ (.tail _ (.head _)))))))))) rfl hcI2 i hiI rfl hqI nr35_wt) (fun a hF => ?_)
  refine vp_yg hF rfl rfl rfl rfl rfl rfl rfl (by decide) _ (fun x hx => y_lenSl rfl Try.underlying35 rfl rfl) (fun a hF => ?_)
  have hA9 : Hp w0 (Y2 :: Z2 :: Z1 :: Zq :: (((qs.map wxS).eraseIdx i).flatten) :: [row rb 31 [.slice (some ⟨bW, pW, none⟩) qs.length cW, .slice (some ⟨bI, pI, none⟩) qs.length cJ, lv, wv, .int .i64 held, .bool false]] :: XW :: XI :: YB :: R) w6.drew := Hp.ord [Z2, Y2, Z1, Zq, (((qs.map wxS).eraseIdx i).flatten), [row rb 31 [.slice (some ⟨bW, pW, none⟩) qs.length cW, .slice (some ⟨bI, pI, none⟩) qs.length cJ, lv, wv, .int .i64 held, .bool false]], XW, XI, YB] R [1, 0, 2, 3, 4, 5, 6, 7, 8] hA8 rfl
  refine vp_lg hF rfl rfl rfl rfl rfl rfl (fun K hK => ws_call hF rfl (by decide) cl22_wt rfl rfl ?_)
  with_reducible refine (hw_len w0 _ _ wb _ _ hY2 hA9 ).mono ?_
  rintro e' w12 ⟨rfl, rfl⟩
  refine ⟨_, rfl, fun a hF => hK _ _ (fun _ => ?_) ?_⟩
  · exact Hp.qp [Y2, Z2, Z1, Zq, (((qs.map wxS).eraseIdx i).flatten), [row rb 31 [.slice (some ⟨bW, pW, none⟩) qs.length cW, .slice (some ⟨bI, pI, none⟩) qs.length cJ, lv, wv, .int .i64 held, .bool false]], XW, XI, YB] R [1, 0, 2, 3, 4, 5, 6, 7, 8] hA9
  clear hK K
  refine vp_yg hF rfl rfl rfl rfl rfl rfl rfl (by decide) _ (fun x hx => y_cmp rfl rfl rfl rfl (eql_t rfl)) (fun a hF => ?_)
  refine vp_y hF rfl rfl rfl rfl (by decide) _ (fun x hx => y_pick rfl rfl rfl) (fun a hF => ?_)
  refine vp_ly hF rfl rfl rfl rfl (by decide) _ (y_assign rfl rfl) (fun h => absurd h (by decide)) (fun a hF => ?_)
  refine plan_end ?_
  refine hK4 _ _ ?_; clear  hK4 K4
  apply wp_seq_k; intro K5 hK5
  refine wp_region_lit ?_
  refine vc_y hF rfl rfl (by decide) _ (y_move rfl rfl) (fun a hF => ?_)
  refine vc_y hF rfl rfl (by decide) _ (y_nilCheck rfl rfl) (fun a hF => ?_)
  refine vc_y hF rfl rfl (by decide) _ (y_field rfl Try.underlying31 rfl sz29_wt (by decide) rfl (rfl : (⟨_, 0 + _, none⟩ : Addr) = ⟨_, 2, none⟩)) (fun a hF => ?_)
  refine vc_y hF rfl rfl (by decide) _ (y_move rfl rfl) (fun a hF => ?_)
  have hA13 : Hp w0 (Z1 :: [row rb 31 [.slice (some ⟨bW, pW, none⟩) qs.length cW, .slice (some ⟨bI, pI, none⟩) qs.length cJ, lv, wv, .int .i64 held, .bool false]] :: YB :: Y2 :: Z2 :: Zq :: (((qs.map wxS).eraseIdx i).flatten) :: XW :: XI :: R) w6.drew := Hp.ord [Y2, Z2, Z1, Zq, (((qs.map wxS).eraseIdx i).flatten), [row rb 31 [.slice (some ⟨bW, pW, none⟩) qs.length cW, .slice (some ⟨bI, pI, none⟩) qs.length cJ, lv, wv, .int .i64 held, .bool false]], XW, XI, YB] R [2, 5, 8, 0, 1, 3, 4, 6, 7] hA9 rfl
  refine vc_op rfl (fun K hK => ws_call hF rfl (by decide) cl49_wt rfl rfl ?_)
  with_reducible refine (kb_keep_byte_2_0 w0 _ _ rb ks YB Z1 _ l hB (by rw [← cel_dc]; exact hZ1) (fun _ _ => rfl) (by omega) (by omega) hA13 ).mono ?_
  rintro e' w14 ⟨ks1, lv1, wv1, held1, YB1, rfl, hB1, _, hA15⟩
  refine ⟨_, rfl, fun a hF => hK _ _ ?_⟩
  clear hK K
  replace hA15 : Hp w0 ([row rb 31 [.slice (some ⟨bW, pW, none⟩) qs.length cW, .slice (some ⟨bI, pI, none⟩) qs.length cJ, lv1, wv1, .int .i64 held1, .bool false]] :: YB1 :: Y2 :: Z2 :: Zq :: (((qs.map wxS).eraseIdx i).flatten) :: XW :: XI :: R) w14 := hA15
  refine vc_nil ?_
  refine hK5 _ _ ?_; clear  hK5 K5
  apply wp_seq_k; intro K6 hK6
  refine wp_region_lit ?_
  refine vc_y hF rfl rfl (by decide) _ (y_move rfl rfl) (fun a hF => ?_)
  refine vc_y hF rfl rfl (by decide) _ (y_nilCheck rfl rfl) (fun a hF => ?_)
  refine vc_y hF rfl rfl (by decide) _ (y_field rfl Try.underlying31 rfl sz29_wt (by decide) rfl (rfl : (⟨_, 0 + _, none⟩ : Addr) = ⟨_, 2, none⟩)) (fun a hF => ?_)
  refine vc_y hF rfl rfl (by decide) _ (y_move rfl rfl) (fun a hF => ?_)
  have hA16 : Hp w0 (Z2 :: [row rb 31 [.slice (some ⟨bW, pW, none⟩) qs.length cW, .slice (some ⟨bI, pI, none⟩) qs.length cJ, lv1, wv1, .int .i64 held1, .bool false]] :: YB1 :: Y2 :: Zq :: (((qs.map wxS).eraseIdx i).flatten) :: XW :: XI :: R) w14 := Hp.ord [[row rb 31 [.slice (some ⟨bW, pW, none⟩) qs.length cW, .slice (some ⟨bI, pI, none⟩) qs.length cJ, lv1, wv1, .int .i64 held1, .bool false]], YB1, Y2, Z2, Zq, (((qs.map wxS).eraseIdx i).flatten), XW, XI] R [3, 0, 1, 2, 4, 5, 6, 7] hA15 rfl
  refine vc_op rfl (fun K hK => ws_call hF rfl (by decide) cl49_wt rfl rfl ?_)
  with_reducible refine (kb_keep_byte_2_0 w0 _ _ rb ks1 YB1 Z2 _ l hB1 (by rw [← cel_dc]; exact hZ2) (fun _ _ => rfl) (by omega) (by omega) hA16 ).mono ?_
  rintro e' w17 ⟨ks2, lv2, wv2, held2, YB2, rfl, hB2, _, hA18⟩
  refine ⟨_, rfl, fun a hF => hK _ _ ?_⟩
  clear hK K
  replace hA18 : Hp w0 ([row rb 31 [.slice (some ⟨bW, pW, none⟩) qs.length cW, .slice (some ⟨bI, pI, none⟩) qs.length cJ, lv2, wv2, .int .i64 held2, .bool false]] :: YB2 :: Y2 :: Zq :: (((qs.map wxS).eraseIdx i).flatten) :: XW :: XI :: R) w17 := hA18
  refine vc_nil ?_
  refine hK6 _ _ ?_; clear  hK6 K6
  apply wp_seq_k; intro K7 hK7
  refine wp_region_lit ?_
  refine vc_y hF rfl rfl (by decide) _ (y_move rfl rfl) (fun a hF => ?_)
  refine vc_y hF rfl rfl (by decide) _ (y_assign rfl rfl) (fun a hF => ?_)
  refine vc_nil ?_
  refine hK7 _ _ ?_; clear  hK7 K7
  apply wp_ret
  refine vc_ret1 hF Try.results14 rfl ?_
  have hA19 : Hp w0 (Y2 :: Zq :: (((qs.map wxS).eraseIdx i).flatten) :: [row rb 31 [.slice (some ⟨bW, pW, none⟩) qs.length cW, .slice (some ⟨bI, pI, none⟩) qs.length cJ, lv2, wv2, .int .i64 held2, .bool false]] :: XW :: XI :: YB2 :: R) w17 := Hp.ord [[row rb 31 [.slice (some ⟨bW, pW, none⟩) qs.length cW, .slice (some ⟨bI, pI, none⟩) qs.length cJ, lv2, wv2, .int .i64 held2, .bool false]], YB2, Y2, Zq, (((qs.map wxS).eraseIdx i).flatten), XW, XI] R [2, 3, 4, 0, 5, 6, 1] hA18 rfl
  have hA20 : Hp w0 ((((qs.map wxS).set i (Y2 ++ Zq)).flatten) :: [row rb 31 [.slice (some ⟨bW, pW, none⟩) qs.length cW, .slice (some ⟨bI, pI, none⟩) qs.length cJ, lv2, wv2, .int .i64 held2, .bool false]] :: XW :: XI :: YB2 :: R) w17 := (Hp.join hA19).inS (by rw [List.length_map]; omega)
  have hA21 : Hp w0 ([row rb 31 [.slice (some ⟨bW, pW, none⟩) qs.length cW, .slice (some ⟨bI, pI, none⟩) qs.length cJ, lv2, wv2, .int .i64 held2, .bool false]] :: XW :: XI :: YB2 :: (((qs.map wxS).set i (Y2 ++ Zq)).flatten) :: R) w17 := Hp.ord [(((qs.map wxS).set i (Y2 ++ Zq)).flatten), [row rb 31 [.slice (some ⟨bW, pW, none⟩) qs.length cW, .slice (some ⟨bI, pI, none⟩) qs.length cJ, lv2, wv2, .int .i64 held2, .bool false]], XW, XI, YB2] R [1, 2, 3, 4, 0] hA20 rfl
  have hqs2 : ∀ q ∈ qs.set i ⟨wb, l, Y2, .slice AI l.length cI, Zq⟩, WXok (T) q := fun q h => by
    rcases List.mem_or_eq_of_mem_set h with h | rfl
    · exact ⟨(hqs q h).1, Nat.le_trans (hqs q h).2 (by omega)⟩
    · exact ⟨⟨hY2, hZq⟩, hlT⟩
  have hlen : (qs.set i ⟨wb, l, Y2, .slice AI l.length cI, Zq⟩).length = qs.length := List.length_set
  have hW2 : Buf 46 1 XW (.slice (some ⟨bW, pW, none⟩) qs.length cW) (qs.set i ⟨wb, l, Y2, .slice AI l.length cI, Zq⟩).length ((qs.set i ⟨wb, l, Y2, .slice AI l.length cI, Zq⟩).map wxP) := by rw [hlen, map_set_same (f := wxP) (q' := ⟨wb, l, Y2, .slice AI l.length cI, Zq⟩) hq rfl]; exact hW
  have hI2 : Buf 35 1 XI (.slice (some ⟨bI, pI, none⟩) qs.length cJ) (qs.set i ⟨wb, l, Y2, .slice AI l.length cI, Zq⟩).length ((qs.set i ⟨wb, l, Y2, .slice AI l.length cI, Zq⟩).map (·.iv)) := by rw [hlen, map_set_same (f := fun q : WX => q.iv) (q' := ⟨wb, l, Y2, .slice AI l.length cI, Zq⟩) hq rfl]; exact hI
  have hfin : Hp w0 ((row rb 31 [.slice (some ⟨bW, pW, none⟩) qs.length cW, .slice (some ⟨bI, pI, none⟩) qs.length cJ, lv2, wv2, .int .i64 held2, .bool false] :: (XW ++ (XI ++ (YB2 ++ ((qs.set i ⟨wb, l, Y2, .slice AI l.length cI, Zq⟩).map wxS).flatten)))) :: R) w17 := by
    rw [List.map_set]
    exact hA21.cast (by simp [wxS])
  exact ⟨_, rfl, ⟨qs.set i ⟨wb, l, Y2, .slice AI l.length cI, Zq⟩, _, _, lv2, wv2, held2, ks2, XW, XI, YB2, hlen.trans hn0, hqs2, hW2, hI2, hB2, rfl⟩, hfin⟩

theorem RowOK.mono {rb n T T' : Nat} {Y : Seg} (h : RowOK rb n T Y) (hT : T ≤ T') : RowOK rb n T' Y := by
  obtain ⟨qs, wsv, isv, lv, wv, held, ks, XW, XI, YB, h1, h2, h3⟩ := h
  exact ⟨qs, wsv, isv, lv, wv, held, ks, XW, XI, YB, h1, fun q hq => ⟨(h2 q hq).1, Nat.le_trans (h2 q hq).2 hT⟩, h3⟩
theorem wt_grow {n : Nat} (h : n < 1000000000) : (n + 1 + (n + 1) / 4 + 192) * 8 ≤ 281474976710656 ∧ (n + 1 + (n + 1) / 4 + 192) * 24 ≤ 281474976710656 := by omega
theorem wt_bsP (b : Nat) (w : World) : (Instr.buildSlice 26 1 #[(0, .pointer (some ⟨b, 0, none⟩))]).run Try.prog w = .ok (.slice (some ⟨w.heap.size, 0, none⟩) 1 1) (w.alloc (.cells #[.pointer (some ⟨b, 0, none⟩)] 46)) := by kernel_rfl
theorem wt_bsN (w : World) : (Instr.buildSlice 27 1 #[(0, .slice none 0 0)]).run Try.prog w = .ok (.slice (some ⟨w.heap.size, 0, none⟩) 1 1) (w.alloc (.cells #[.slice none 0 0] 35)) := by kernel_rfl
theorem wt_elemP : elemInfo Try.prog 46 1 8 := elemInfo_of (z := .pointer none) (by kernel_rfl) (by kernel_rfl)
theorem sum_len_le {α : Type} (f : α → Nat) (l : List α) : l.length ≤ (l.map (fun p => f p + 1)).sum ∧ (∀ p ∈ l, f p ≤ (l.map (fun p => f p + 1)).sum) := by
  induction l with
  | nil => exact ⟨Nat.le_refl _, fun p h => by cases h⟩
  | cons x l ih =>
    rw [List.map_cons, List.sum_cons, List.length_cons]
    refine ⟨by omega, fun p hp => ?_⟩
    rcases List.mem_cons.1 hp with rfl | hp
    · omega
    · have := ih.2 p hp; omega
theorem pflat_cost (ps : List Piece) : (pflat ps).length ≤ (ps.map (fun p : Piece => p.2.2.length + 1)).sum := by
  induction ps with
  | nil => exact Nat.zero_le _
  | cons x ps ih =>
    have e : (pflat (x :: ps)).length = x.2.2.length + (pflat ps).length := by simp [pflat]
    rw [e, List.map_cons, List.sum_cons]; omega
theorem op_costs (o : OpX) (h32 : ∀ d ∈ o.v.ds, d.length = 32) : vSz o.v ≤ 2 * opCost o ∧ o.v.p.length ≤ opCost o ∧ o.v.ss.length ≤ opCost o ∧ o.v.ds.length ≤ opCost o ∧ o.ps.length ≤ opCost o ∧ (pflat o.ps).length ≤ opCost o ∧ ∀ p ∈ o.ps, p.2.2.length ≤ opCost o := by
  have h1 := (lays_size o h32).1
  have h2 := sum_len_le (fun p : Piece => p.2.2.length) o.ps
  have h3 := (sum_len_le (fun p : List UInt8 => p.length) o.v.ss).1
  have h4 := pflat_cost o.ps
  have h5 : opCost o = 100 + o.v.p.length + o.v.s.length + 32 * o.v.ds.length + (o.ps.map (fun p : Piece => p.2.2.length + 1)).sum + (o.v.ss.map (fun p : List UInt8 => p.length + 1)).sum := rfl
  obtain ⟨h2a, h2b⟩ := h2
  exact ⟨h1, by omega, by omega, by omega, by omega, by omega, fun p hp => by have := h2b p hp; omega⟩
theorem wt_sized_le (o : OpX) (h32 : ∀ d ∈ o.v.ds, d.length = 32) : (sizedB o).length ≤ 2 * opCost o := by
  have h1 := tflat_size o.v.ss
  have h3 : opCost o = 100 + o.v.p.length + o.v.s.length + 32 * o.v.ds.length + (o.ps.map (fun p : Piece => p.2.2.length + 1)).sum + (o.v.ss.map (fun p : List UInt8 => p.length + 1)).sum := rfl
  unfold sizedB
  split
  · rw [textB]; split
    · exact Nat.zero_le _
    · rw [List.length_append, be_length]; omega
  · split
    · rw [bytesB]; split
      · exact Nat.zero_le _
      · rw [List.length_append, be_length]; omega
    · rw [textsB]; split
      · rw [List.length_append, be_length]; omega
      · exact Nat.zero_le _
theorem wt_plain_le (o : OpX) (h32 : ∀ d ∈ o.v.ds, d.length = 32) : (plainB o).length ≤ 2 * opCost o := by
  have h2 := flatten32 o.v.ds h32
  have h4 := pflat_cost o.ps
  have h3 : opCost o = 100 + o.v.p.length + o.v.s.length + 32 * o.v.ds.length + (o.ps.map (fun p : Piece => p.2.2.length + 1)).sum + (o.v.ss.map (fun p : List UInt8 => p.length + 1)).sum := rfl
  unfold plainB
  split
  · rw [List.length_cons, List.length_nil]; omega
  · split
    · omega
    · split
      · omega
      · unfold numB
        split
        · rw [be_length]; omega
        · split
          · rw [be_length]; omega
          · split
            · rw [be_length]; omega
            · rw [be_length]; omega

set_option maxRecDepth 100000 in
set_option maxHeartbeats 4000000 in
theorem wt_writes (w0 w : World) (R : List Seg) (rb n T : Nat) (Y : Seg) (o : OpX) (hok : OpOK w0 R o) (hP : PcS w0 R o.qA o.ps) (hco : opCost o ≤ 2147483748) (hrow : RowOK rb n T Y) (hn : 0 < n ∨ o.kind = 13) (hnb : n < 1000000000) (hA : Hp w0 (Y :: R) w) (hTb : T + 4 * opCost o < 140737488353000) : Calls Try.prog 13 #[.pointer (some ⟨rb, 0, none⟩), .agg (opC o).toArray] w fun e w' => ∃ n' Y', e = .returned (.bool true) ∧ n' = (if o.kind = 13 then n + 1 else n) ∧ RowOK rb n' (T + 4 * opCost o) Y' ∧ Hp w0 (Y' :: R) w' := by
  have hOn := hok.n
  obtain ⟨hmv, hmp, hmss, hmd, hmps, hmpf, hpcs⟩ := op_costs o hok.d32
  obtain ⟨qs, wsv, isv, lv, wv, held, ks, XW, XI, YB, hn0, hqs, hW, hI, hB, rfl⟩ := hrow
  replace hA : Hp w0 ([row rb 31 [wsv, isv, lv, wv, .int .i64 held, .bool false]] :: XW :: XI :: YB :: (qs.map wxS).flatten :: R) w := hA.cast (by simp)
  refine vc_enter Try.func13 rfl Try.ntmps13 (Nat.le_of_ble_eq_true rfl) (fun a hF => ?_)
  apply wp_seq_k; intro K1 hK1
  refine wp_region_lit ?_
  refine vc_op rfl (fun K hK => hs_box (cs := [.int .i64 o.kind, .int .i64 o.at_, .int .u64 (o.v.n : Int), .int .i64 o.many, .bool o.v.b, .slice o.dA o.v.ds.length o.dC, .slice o.qA o.ps.length o.qC, .slice o.pA o.v.p.length o.pC, strV o.v.s, .slice o.sA o.v.ss.length o.sC, .int .i64 o.most, .int .i64 o.each]) hF rfl (by decide) rfl hA rfl (fun b1 w2 a hb1 hF hA3 => hK _ _ ?_))
  clear hK K
  replace hA3 : Hp w0 ([row b1 38 [.int .i64 o.kind, .int .i64 o.at_, .int .u64 (o.v.n : Int), .int .i64 o.many, .bool o.v.b, .slice o.dA o.v.ds.length o.dC, .slice o.qA o.ps.length o.qC, .slice o.pA o.v.p.length o.pC, strV o.v.s, .slice o.sA o.v.ss.length o.sC, .int .i64 o.most, .int .i64 o.each]] :: [row rb 31 [wsv, isv, lv, wv, .int .i64 held, .bool false]] :: XW :: XI :: YB :: (qs.map wxS).flatten :: R) w2 := hA3
  refine vc_y hF rfl rfl (by decide) _ (y_assign rfl rfl) (fun a hF => ?_)
  refine vc_nil ?_
  refine hK1 _ _ ?_; clear  hK1 K1
  apply wp_seq_k; intro K2 hK2
  apply wp_seq_k; intro K3 hK3
  refine wp_region_lit ?_
  refine vc_y hF rfl rfl (by decide) _ (y_field rfl Try.underlying38 rfl sz3_wt (by decide) rfl (rfl : (⟨_, 0 + _, none⟩ : Addr) = ⟨_, 0, none⟩)) (fun a hF => ?_)
  refine vc_y hF rfl rfl (by decide) _ (y_ld rfl hA3.q rfl 0 rfl rfl nr3_wt) (fun a hF => ?_)
  refine vc_y hF rfl rfl (by decide) _ (y_cmp rfl rfl rfl rfl rfl) (fun a hF => ?_)
  refine vc_nil ?_
  refine hK3 _ _ ?_; clear  hK3 K3
  by_cases k13 : o.kind = 13
  · refine vc_trueB hF rfl (eql_t (by omega)) ?_
    have hqb : qs.length < 1000000000 := by omega
    apply wp_seq_k; intro K4 hK4
    refine wp_region_lit ?_
    refine vc_op rfl (fun K hK => ws_call hF rfl (by decide) cl21_wt rfl rfl ?_)
    with_reducible refine (hw_new w0 _ _ hA3 ).mono ?_
    rintro e' w4 ⟨wn, Yn, rfl, hYn, hA5⟩
    refine ⟨_, rfl, fun a hF => hK _ _ ?_⟩
    clear hK K
    replace hA5 : Hp w0 (Yn :: [row b1 38 [.int .i64 o.kind, .int .i64 o.at_, .int .u64 (o.v.n : Int), .int .i64 o.many, .bool o.v.b, .slice o.dA o.v.ds.length o.dC, .slice o.qA o.ps.length o.qC, .slice o.pA o.v.p.length o.pC, strV o.v.s, .slice o.sA o.v.ss.length o.sC, .int .i64 o.most, .int .i64 o.each]] :: [row rb 31 [wsv, isv, lv, wv, .int .i64 held, .bool false]] :: XW :: XI :: YB :: (qs.map wxS).flatten :: R) w4 := hA5
    refine vc_y hF rfl rfl (by decide) _ (y_assign rfl rfl) (fun a hF => ?_)
    refine vc_nil ?_
    refine hK4 _ _ ?_; clear  hK4 K4
    apply wp_seq_k; intro K5 hK5
    apply wp_seq_k; intro K6 hK6
    refine wp_region_lit ?_
    refine vc_y hF rfl rfl (by decide) _ (y_move rfl rfl) (fun a hF => ?_)
    refine vc_y hF rfl rfl (by decide) _ (y_eqNil rfl (by kernel_rfl) rfl rfl) (fun a hF => ?_)
    refine vc_nil ?_
    refine hK6 _ _ ?_; clear  hK6 K6
    refine vc_false hF rfl ?_
    apply wp_skip
    refine hK5 _ _ ?_; clear  hK5 K5
    apply wp_seq_k; intro K7 hK7
    refine wp_region_lit ?_
    refine vc_y hF rfl rfl (by decide) _ (y_move rfl rfl) (fun a hF => ?_)
    refine vc_y hF rfl rfl (by decide) _ (y_move rfl rfl) (fun a hF => ?_)
    refine vc_y hF rfl rfl (by decide) _ (y_nilCheck rfl rfl) (fun a hF => ?_)
    refine vc_y hF rfl rfl (by decide) _ (y_field rfl Try.underlying31 rfl sz26_wt (by decide) rfl (rfl : (⟨_, 0 + _, none⟩ : Addr) = ⟨_, 0, none⟩)) (fun a hF => ?_)
    refine vc_y hF rfl rfl (by decide) _ (y_ld rfl hA5.q rfl 2 rfl rfl nr26_wt) (fun a hF => ?_)
    refine vc_y hF rfl rfl (by decide) _ (y_move rfl rfl) (fun a hF => ?_)
    refine vc_op rfl (fun K hK => hs_bs1 (u1 := .pointer (some ⟨wn, 0, none⟩)) hF rfl (by decide) rfl hA5 rfl (wt_bsP wn) (fun b6 w7 a hb6 hF hA8 => hK _ _ ?_))
    clear hK K
    replace hA8 : Hp w0 ([row b6 46 [.pointer (some ⟨wn, 0, none⟩)]] :: Yn :: [row b1 38 [.int .i64 o.kind, .int .i64 o.at_, .int .u64 (o.v.n : Int), .int .i64 o.many, .bool o.v.b, .slice o.dA o.v.ds.length o.dC, .slice o.qA o.ps.length o.qC, .slice o.pA o.v.p.length o.pC, strV o.v.s, .slice o.sA o.v.ss.length o.sC, .int .i64 o.most, .int .i64 o.each]] :: [row rb 31 [wsv, isv, lv, wv, .int .i64 held, .bool false]] :: XW :: XI :: YB :: (qs.map wxS).flatten :: R) w7 := hA8
    refine vc_op rfl (fun K hK => hs_append hF rfl (by decide) rfl hA8 4 rfl hW Try.underlying26 wt_elemP rfl rfl (Rc.srcC (W := [.pointer (some ⟨wn, 0, none⟩)]) (m := 1) (size := 1) (R := [row b6 46 [.pointer (some ⟨wn, 0, none⟩)]] :: Yn :: [row b1 38 [.int .i64 o.kind, .int .i64 o.at_, .int .u64 (o.v.n : Int), .int .i64 o.many, .bool o.v.b, .slice o.dA o.v.ds.length o.dC, .slice o.qA o.ps.length o.qC, .slice o.pA o.v.p.length o.pC, strV o.v.s, .slice o.sA o.v.ss.length o.sC, .int .i64 o.most, .int .i64 o.each]] :: [row rb 31 [wsv, isv, lv, wv, .int .i64 held, .bool false]] :: XW :: XI :: YB :: (qs.map wxS).flatten :: R) (Rc.ofRow (i := 0) (off := 0) rfl rfl) hA8.q Try.underlying26 (by decide) rfl (by simp [Value.oneCell'])) ((wt_grow hqb).1) (by decide) (fun wsv2 XW2 w9 a hW2 hF hA10 => hK _ _ ?_))
    clear hK K
    replace hA10 : Hp w0 ([row b6 46 [.pointer (some ⟨wn, 0, none⟩)]] :: Yn :: [row b1 38 [.int .i64 o.kind, .int .i64 o.at_, .int .u64 (o.v.n : Int), .int .i64 o.many, .bool o.v.b, .slice o.dA o.v.ds.length o.dC, .slice o.qA o.ps.length o.qC, .slice o.pA o.v.p.length o.pC, strV o.v.s, .slice o.sA o.v.ss.length o.sC, .int .i64 o.most, .int .i64 o.each]] :: [row rb 31 [wsv, isv, lv, wv, .int .i64 held, .bool false]] :: XW2 :: XI :: YB :: (qs.map wxS).flatten :: R) w9 := hA10
    refine vc_y hF rfl rfl (by decide) _ (y_nilCheck rfl rfl) (fun a hF => ?_)
    refine vc_y hF rfl rfl (by decide) _ (y_field rfl Try.underlying31 rfl sz26_wt (by decide) rfl (rfl : (⟨_, 0 + _, none⟩ : Addr) = ⟨_, 0, none⟩)) (fun a hF => ?_)
    refine vc_op rfl (fun K hK => hs_store1 hF rfl rfl hA10 rfl rfl 3 rfl (by simp) hW2.one sz26_wt (fun w11 hA12 => hK _ _ ?_))
    clear hK K
    replace hA12 : Hp w0 ([row b6 46 [.pointer (some ⟨wn, 0, none⟩)]] :: Yn :: [row b1 38 [.int .i64 o.kind, .int .i64 o.at_, .int .u64 (o.v.n : Int), .int .i64 o.many, .bool o.v.b, .slice o.dA o.v.ds.length o.dC, .slice o.qA o.ps.length o.qC, .slice o.pA o.v.p.length o.pC, strV o.v.s, .slice o.sA o.v.ss.length o.sC, .int .i64 o.most, .int .i64 o.each]] :: [row rb 31 [wsv2, isv, lv, wv, .int .i64 held, .bool false]] :: XW2 :: XI :: YB :: (qs.map wxS).flatten :: R) w11 := hA12
    refine vc_nil ?_
    refine hK7 _ _ ?_; clear  hK7 K7
    apply wp_seq_k; intro K8 hK8
    refine wp_region_lit ?_
    refine vc_y hF rfl rfl (by decide) _ (y_move rfl rfl) (fun a hF => ?_)
    refine vc_y hF rfl rfl (by decide) _ (y_move rfl rfl) (fun a hF => ?_)
    refine vc_y hF rfl rfl (by decide) _ (y_nilCheck rfl rfl) (fun a hF => ?_)
    refine vc_y hF rfl rfl (by decide) _ (y_field rfl Try.underlying31 rfl sz27_wt (by decide) rfl (rfl : (⟨_, 0 + _, none⟩ : Addr) = ⟨_, 1, none⟩)) (fun a hF => ?_)
    refine vc_y hF rfl rfl (by decide) _ (y_ld rfl hA12.q rfl 3 rfl rfl nr27_wt) (fun a hF => ?_)
    refine vc_op rfl (fun K hK => hs_bs1 (u1 := .slice none 0 0) hF rfl (by decide) rfl hA12 rfl (wt_bsN) (fun b13 w14 a hb13 hF hA15 => hK _ _ ?_))
    clear hK K
    replace hA15 : Hp w0 ([row b13 35 [.slice none 0 0]] :: [row b6 46 [.pointer (some ⟨wn, 0, none⟩)]] :: Yn :: [row b1 38 [.int .i64 o.kind, .int .i64 o.at_, .int .u64 (o.v.n : Int), .int .i64 o.many, .bool o.v.b, .slice o.dA o.v.ds.length o.dC, .slice o.qA o.ps.length o.qC, .slice o.pA o.v.p.length o.pC, strV o.v.s, .slice o.sA o.v.ss.length o.sC, .int .i64 o.most, .int .i64 o.each]] :: [row rb 31 [wsv2, isv, lv, wv, .int .i64 held, .bool false]] :: XW2 :: XI :: YB :: (qs.map wxS).flatten :: R) w14 := hA15
    refine vc_op rfl (fun K hK => hs_append hF rfl (by decide) rfl hA15 6 rfl hI Try.underlying27 kb_elemL_byte rfl rfl (Rc.srcC (W := [.slice none 0 0]) (m := 1) (size := 1) (R := [row b13 35 [.slice none 0 0]] :: [row b6 46 [.pointer (some ⟨wn, 0, none⟩)]] :: Yn :: [row b1 38 [.int .i64 o.kind, .int .i64 o.at_, .int .u64 (o.v.n : Int), .int .i64 o.many, .bool o.v.b, .slice o.dA o.v.ds.length o.dC, .slice o.qA o.ps.length o.qC, .slice o.pA o.v.p.length o.pC, strV o.v.s, .slice o.sA o.v.ss.length o.sC, .int .i64 o.most, .int .i64 o.each]] :: [row rb 31 [wsv2, isv, lv, wv, .int .i64 held, .bool false]] :: XW2 :: XI :: YB :: (qs.map wxS).flatten :: R) (Rc.ofRow (i := 0) (off := 0) rfl rfl) hA15.q Try.underlying27 (by decide) rfl (by simp [Value.oneCell'])) ((wt_grow hqb).2) (by decide) (fun isv2 XI2 w16 a hI2 hF hA17 => hK _ _ ?_))
    clear hK K
    replace hA17 : Hp w0 ([row b13 35 [.slice none 0 0]] :: [row b6 46 [.pointer (some ⟨wn, 0, none⟩)]] :: Yn :: [row b1 38 [.int .i64 o.kind, .int .i64 o.at_, .int .u64 (o.v.n : Int), .int .i64 o.many, .bool o.v.b, .slice o.dA o.v.ds.length o.dC, .slice o.qA o.ps.length o.qC, .slice o.pA o.v.p.length o.pC, strV o.v.s, .slice o.sA o.v.ss.length o.sC, .int .i64 o.most, .int .i64 o.each]] :: [row rb 31 [wsv2, isv, lv, wv, .int .i64 held, .bool false]] :: XW2 :: XI2 :: YB :: (qs.map wxS).flatten :: R) w16 := hA17
    refine vc_y hF rfl rfl (by decide) _ (y_nilCheck rfl rfl) (fun a hF => ?_)
    refine vc_y hF rfl rfl (by decide) _ (y_field rfl Try.underlying31 rfl sz27_wt (by decide) rfl (rfl : (⟨_, 0 + _, none⟩ : Addr) = ⟨_, 1, none⟩)) (fun a hF => ?_)
    refine vc_op rfl (fun K hK => hs_store1 hF rfl rfl hA17 rfl rfl 4 rfl (by simp) hI2.one sz27_wt (fun w18 hA19 => hK _ _ ?_))
    clear hK K
    replace hA19 : Hp w0 ([row b13 35 [.slice none 0 0]] :: [row b6 46 [.pointer (some ⟨wn, 0, none⟩)]] :: Yn :: [row b1 38 [.int .i64 o.kind, .int .i64 o.at_, .int .u64 (o.v.n : Int), .int .i64 o.many, .bool o.v.b, .slice o.dA o.v.ds.length o.dC, .slice o.qA o.ps.length o.qC, .slice o.pA o.v.p.length o.pC, strV o.v.s, .slice o.sA o.v.ss.length o.sC, .int .i64 o.most, .int .i64 o.each]] :: [row rb 31 [wsv2, isv2, lv, wv, .int .i64 held, .bool false]] :: XW2 :: XI2 :: YB :: (qs.map wxS).flatten :: R) w18 := hA19
    refine vc_nil ?_
    refine hK8 _ _ ?_; clear  hK8 K8
    apply wp_seq_k; intro K9 hK9
    refine wp_region_lit ?_
    refine vc_y hF rfl rfl (by decide) _ (y_assign rfl rfl) (fun a hF => ?_)
    refine vc_nil ?_
    refine hK9 _ _ ?_; clear  hK9 K9
    apply wp_ret
    simp only [Exit.then]
    refine vc_ret1 hF Try.results13 rfl ?_
    have hA20 : Hp w0 ([row rb 31 [wsv2, isv2, lv, wv, .int .i64 held, .bool false]] :: XW2 :: XI2 :: YB :: (qs.map wxS).flatten :: Yn :: R) w18 := Hp.sel [[row b13 35 [.slice none 0 0]], [row b6 46 [.pointer (some ⟨wn, 0, none⟩)]], Yn, [row b1 38 [.int .i64 o.kind, .int .i64 o.at_, .int .u64 (o.v.n : Int), .int .i64 o.many, .bool o.v.b, .slice o.dA o.v.ds.length o.dC, .slice o.qA o.ps.length o.qC, .slice o.pA o.v.p.length o.pC, strV o.v.s, .slice o.sA o.v.ss.length o.sC, .int .i64 o.most, .int .i64 o.each]], [row rb 31 [wsv2, isv2, lv, wv, .int .i64 held, .bool false]], XW2, XI2, YB, (qs.map wxS).flatten] R [4, 5, 6, 7, 8, 2] [0, 1, 3] hA19 rfl
    have hlen : (qs ++ [(⟨wn, [], Yn, .slice none 0 0, []⟩ : WX)]).length = qs.length + 1 := by simp
    have hqs2 : ∀ q ∈ qs ++ [(⟨wn, [], Yn, .slice none 0 0, []⟩ : WX)], WXok (T + 4 * opCost o) q := fun q h => by
      rcases List.mem_append.1 h with h | h
      · exact ⟨(hqs q h).1, Nat.le_trans (hqs q h).2 (by omega)⟩
      · rw [List.mem_singleton] at h
        subst h
        exact ⟨⟨hYn, Buf.nil _ _⟩, Nat.zero_le _⟩
    have hW3 : Buf 46 1 XW2 wsv2 (qs ++ [(⟨wn, [], Yn, .slice none 0 0, []⟩ : WX)]).length ((qs ++ [(⟨wn, [], Yn, .slice none 0 0, []⟩ : WX)]).map wxP) := by rw [hlen, List.map_append]; exact hW2
    have hI3 : Buf 35 1 XI2 isv2 (qs ++ [(⟨wn, [], Yn, .slice none 0 0, []⟩ : WX)]).length ((qs ++ [(⟨wn, [], Yn, .slice none 0 0, []⟩ : WX)]).map (·.iv)) := by rw [hlen, List.map_append]; exact hI2
    refine ⟨n + 1, _, rfl, (if_pos k13).symm, ⟨qs ++ [⟨wn, [], Yn, .slice none 0 0, []⟩], wsv2, isv2, lv, wv, held, ks, XW2, XI2, YB, by rw [hlen, hn0], hqs2, hW3, hI3, hB, rfl⟩, ?_⟩
    exact hA20.cast (by simp [wxS])
  · refine vc_falseB hF rfl (eql_f (by omega)) ?_
    have hn1 : 0 < qs.length := by
      rcases hn with h | h
      · omega
      · exact absurd h k13
    have hn2 : (if o.kind = 13 then n + 1 else n) = n := if_neg k13
    obtain ⟨hwi1, hwi2⟩ := within_le o.at_ 0 ((qs.length : Int) - 1) (by omega)
    obtain ⟨i, hi⟩ := Int.eq_ofNat_of_zero_le hwi1
    have hiq : i < qs.length := by omega
    obtain ⟨AW, cW, rfl, _, hRW⟩ := hW.rc (w0 := w0) (R := [XW]) (List.mem_cons_self ..)
    apply wp_skip
    refine hK2 _ _ ?_; clear  hK2 K2
    apply wp_seq_k; intro K10 hK10
    refine wp_region_plan 9 [8,9] [0,1,2,3,4,5,6,7,8,9] (fun x => Hq w0 ([row b1 38 [.int .i64 o.kind, .int .i64 o.at_, .int .u64 (o.v.n : Int), .int .i64 o.many, .bool o.v.b, .slice o.dA o.v.ds.length o.dC, .slice o.qA o.ps.length o.qC, .slice o.pA o.v.p.length o.pC, strV o.v.s, .slice o.sA o.v.ss.length o.sC, .int .i64 o.most, .int .i64 o.each]] :: [row rb 31 [.slice AW qs.length cW, isv, lv, wv, .int .i64 held, .bool false]] :: XW :: XI :: YB :: (qs.map wxS).flatten :: R) x) (by kernel_rfl) (by kernel_rfl) (Hq.drew (Hp.qp [[row b1 38 [.int .i64 o.kind, .int .i64 o.at_, .int .u64 (o.v.n : Int), .int .i64 o.many, .bool o.v.b, .slice o.dA o.v.ds.length o.dC, .slice o.qA o.ps.length o.qC, .slice o.pA o.v.p.length o.pC, strV o.v.s, .slice o.sA o.v.ss.length o.sC, .int .i64 o.most, .int .i64 o.each]], [row rb 31 [.slice AW qs.length cW, isv, lv, wv, .int .i64 held, .bool false]], XW, XI, YB, (qs.map wxS).flatten] R [0, 1, 2, 3, 4, 5] hA3)) ?_
    have hA21 := Hl.drew hA3
    refine vp_y hF rfl rfl rfl rfl (by decide) _ (fun x hx => y_field rfl Try.underlying38 rfl sz3_wt (by decide) rfl (rfl : (⟨_, 0 + _, none⟩ : Addr) = ⟨_, 1, none⟩)) (fun a hF => ?_)
    refine vp_y hF rfl rfl rfl rfl (by decide) _ (fun x hx => y_ld rfl hx rfl 0 rfl rfl nr3_wt) (fun a hF => ?_)
    refine vp_y hF rfl rfl rfl rfl (by decide) _ (fun x hx => y_move rfl rfl) (fun a hF => ?_)
    refine vp_y hF rfl rfl rfl rfl (by decide) _ (fun x hx => y_nilCheck rfl rfl) (fun a hF => ?_)
    refine vp_y hF rfl rfl rfl rfl (by decide) _ (fun x hx => y_field rfl Try.underlying31 rfl sz26_wt (by decide) rfl (rfl : (⟨_, 0 + _, none⟩ : Addr) = ⟨_, 0, none⟩)) (fun a hF => ?_)
    refine vp_y hF rfl rfl rfl rfl (by decide) _ (fun x hx => y_ld rfl hx rfl 1 rfl rfl nr26_wt) (fun a hF => ?_)
    refine vp_y hF rfl rfl rfl rfl (by decide) _ (fun x hx => y_lenSl rfl Try.underlying26 rfl rfl) (fun a hF => ?_)
    refine vp_y hF rfl rfl rfl rfl (by decide) _ (fun x hx => y_sub rfl rfl rfl (IntWalk.i64_in _ (by omega))) (fun a hF => ?_)
    refine vp_l rfl rfl rfl (fun K hK => ws_call hF rfl (by decide) cl43_wt rfl rfl ?_)
    with_reducible refine (bk_within w2.drew o.at_ 0 ((qs.length : Int) - 1) (by decide) (by omega) (by omega) ).mono ?_
    rintro e' w24 ⟨rfl, rfl⟩
    refine ⟨_, rfl, fun a hF => hK _ _ (fun _ => ?_) ?_⟩
    · exact Hp.qp [[row b1 38 [.int .i64 o.kind, .int .i64 o.at_, .int .u64 (o.v.n : Int), .int .i64 o.many, .bool o.v.b, .slice o.dA o.v.ds.length o.dC, .slice o.qA o.ps.length o.qC, .slice o.pA o.v.p.length o.pC, strV o.v.s, .slice o.sA o.v.ss.length o.sC, .int .i64 o.most, .int .i64 o.each]], [row rb 31 [.slice AW qs.length cW, isv, lv, wv, .int .i64 held, .bool false]], XW, XI, YB, (qs.map wxS).flatten] R [0, 1, 2, 3, 4, 5] hA21
    clear hK K
    rw [hi] at hF
    refine vp_ly hF rfl rfl rfl rfl (by decide) _ (y_assign rfl rfl) (fun h => absurd h (by decide)) (fun a hF => ?_)
    refine plan_end ?_
    refine hK10 _ _ ?_; clear  hK10 K10
    apply wp_seq_k; intro K11 hK11
    apply wp_seq_k; intro K12 hK12
    refine wp_region_lit ?_
    refine vc_y hF rfl rfl (by decide) _ (y_field rfl Try.underlying38 rfl sz3_wt (by decide) rfl (rfl : (⟨_, 0 + _, none⟩ : Addr) = ⟨_, 0, none⟩)) (fun a hF => ?_)
    refine vc_y hF rfl rfl (by decide) _ (y_ld rfl hA21.q rfl 0 rfl rfl nr3_wt) (fun a hF => ?_)
    refine vc_y hF rfl rfl (by decide) _ (y_cmp rfl rfl rfl rfl rfl) (fun a hF => ?_)
    refine vc_nil ?_
    refine hK12 _ _ ?_; clear  hK12 K12
    by_cases k12 : o.kind = 12
    · refine vc_trueB hF rfl (eql_t (by omega)) ?_
      have hrow2 : RowOK rb n T (row rb 31 [.slice AW qs.length cW, isv, lv, wv, .int .i64 held, .bool false] :: (XW ++ (XI ++ (YB ++ (qs.map wxS).flatten)))) := ⟨qs, _, _, lv, wv, held, ks, XW, XI, YB, hn0, hqs, hW, hI, hB, rfl⟩
      have hA25 : Hp w0 ([row rb 31 [.slice AW qs.length cW, isv, lv, wv, .int .i64 held, .bool false]] :: XW :: XI :: YB :: (qs.map wxS).flatten :: [row b1 38 [.int .i64 o.kind, .int .i64 o.at_, .int .u64 (o.v.n : Int), .int .i64 o.many, .bool o.v.b, .slice o.dA o.v.ds.length o.dC, .slice o.qA o.ps.length o.qC, .slice o.pA o.v.p.length o.pC, strV o.v.s, .slice o.sA o.v.ss.length o.sC, .int .i64 o.most, .int .i64 o.each]] :: R) w2.drew := Hp.ord [[row b1 38 [.int .i64 o.kind, .int .i64 o.at_, .int .u64 (o.v.n : Int), .int .i64 o.many, .bool o.v.b, .slice o.dA o.v.ds.length o.dC, .slice o.qA o.ps.length o.qC, .slice o.pA o.v.p.length o.pC, strV o.v.s, .slice o.sA o.v.ss.length o.sC, .int .i64 o.most, .int .i64 o.each]], [row rb 31 [.slice AW qs.length cW, isv, lv, wv, .int .i64 held, .bool false]], XW, XI, YB, (qs.map wxS).flatten] R [1, 2, 3, 4, 5, 0] hA21 rfl
      have hA26 : Hp w0 ((row rb 31 [.slice AW qs.length cW, isv, lv, wv, .int .i64 held, .bool false] :: (XW ++ (XI ++ (YB ++ (qs.map wxS).flatten)))) :: [row b1 38 [.int .i64 o.kind, .int .i64 o.at_, .int .u64 (o.v.n : Int), .int .i64 o.many, .bool o.v.b, .slice o.dA o.v.ds.length o.dC, .slice o.qA o.ps.length o.qC, .slice o.pA o.v.p.length o.pC, strV o.v.s, .slice o.sA o.v.ss.length o.sC, .int .i64 o.most, .int .i64 o.each]] :: R) w2.drew := hA25.cast (by simp)
      apply wp_seq_k; intro K13 hK13
      refine wp_region_lit ?_
      refine vc_y hF rfl rfl (by decide) _ (y_move rfl rfl) (fun a hF => ?_)
      refine vc_y hF rfl rfl (by decide) _ (y_move rfl rfl) (fun a hF => ?_)
      refine vc_op rfl (fun K hK => ws_call hF rfl (by decide) cl14_wt rfl rfl ?_)
      with_reducible refine (wt_tells w0 _ ([row b1 38 [.int .i64 o.kind, .int .i64 o.at_, .int .u64 (o.v.n : Int), .int .i64 o.many, .bool o.v.b, .slice o.dA o.v.ds.length o.dC, .slice o.qA o.ps.length o.qC, .slice o.pA o.v.p.length o.pC, strV o.v.s, .slice o.sA o.v.ss.length o.sC, .int .i64 o.most, .int .i64 o.each]] :: R) rb n T i _ hrow2 (by omega) hA26 (by omega) ).mono ?_
      rintro e' w27 ⟨Y', rfl, hrow3, hA28⟩
      refine ⟨_, rfl, fun a hF => hK _ _ ?_⟩
      clear hK K
      replace hA28 : Hp w0 (Y' :: [row b1 38 [.int .i64 o.kind, .int .i64 o.at_, .int .u64 (o.v.n : Int), .int .i64 o.many, .bool o.v.b, .slice o.dA o.v.ds.length o.dC, .slice o.qA o.ps.length o.qC, .slice o.pA o.v.p.length o.pC, strV o.v.s, .slice o.sA o.v.ss.length o.sC, .int .i64 o.most, .int .i64 o.each]] :: R) w27 := hA28
      refine vc_y hF rfl rfl (by decide) _ (y_assign rfl rfl) (fun a hF => ?_)
      refine vc_nil ?_
      refine hK13 _ _ ?_; clear  hK13 K13
      apply wp_ret
      simp only [Exit.then]
      refine vc_ret1 hF Try.results13 rfl ?_
      have hA29 : Hp w0 (Y' :: R) w27 := Hp.sel [Y', [row b1 38 [.int .i64 o.kind, .int .i64 o.at_, .int .u64 (o.v.n : Int), .int .i64 o.many, .bool o.v.b, .slice o.dA o.v.ds.length o.dC, .slice o.qA o.ps.length o.qC, .slice o.pA o.v.p.length o.pC, strV o.v.s, .slice o.sA o.v.ss.length o.sC, .int .i64 o.most, .int .i64 o.each]]] R [0] [1] hA28 rfl
      exact ⟨n, Y', rfl, hn2.symm, hrow3.mono (by omega), hA29⟩
    · refine vc_falseB hF rfl (eql_f (by omega)) ?_
      apply wp_skip
      refine hK11 _ _ ?_; clear  hK11 K11
      apply wp_seq_k; intro K14 hK14
      refine wp_region_lit ?_
      refine vc_y hF rfl rfl (by decide) _ (y_assign rfl rfl) (fun a hF => ?_)
      refine vc_nil ?_
      refine hK14 _ _ ?_; clear  hK14 K14
      apply wp_seq_k; intro K15 hK15
      refine wp_region_lit ?_
      refine vc_y hF rfl rfl (by decide) _ (y_assign rfl rfl) (fun a hF => ?_)
      refine vc_nil ?_
      refine hK15 _ _ ?_; clear  hK15 K15
      apply wp_seq_k; intro K16 hK16
      apply wp_seq_k; intro K17 hK17
      refine wp_region_lit ?_
      refine vc_y hF rfl rfl (by decide) _ (y_field rfl Try.underlying38 rfl sz3_wt (by decide) rfl (rfl : (⟨_, 0 + _, none⟩ : Addr) = ⟨_, 0, none⟩)) (fun a hF => ?_)
      refine vc_y hF rfl rfl (by decide) _ (y_ld rfl hA21.q rfl 0 rfl rfl nr3_wt) (fun a hF => ?_)
      refine vc_nil ?_
      refine hK17 _ _ ?_; clear  hK17 K17
      obtain ⟨⟨wb, l, Yq, iv, Zq⟩, hq⟩ : ∃ q, qs[i]? = some q := ⟨_, List.getElem?_eq_getElem (by omega)⟩
      obtain ⟨⟨hYq, hZq⟩, hlT⟩ : (WrS wb l Yq ∧ Buf 5 1 Zq iv l.length (dc l)) ∧ l.length ≤ T := hqs _ (List.mem_of_getElem? hq)
      obtain ⟨AI, cI, rfl, hcI⟩ := hZq.slice
      have hqW : (qs.map wxP)[i]? = some (.pointer (some ⟨wb, 0, none⟩)) := by rw [List.getElem?_map, hq]; rfl
      have hqI : (qs.map (·.iv))[i]? = some (.slice AI l.length cI) := by rw [List.getElem?_map, hq]; rfl
      have hqS : (qs.map wxS)[i]? = some (Yq ++ Zq) := by rw [List.getElem?_map, hq]; rfl
      have hiW : i < (qs.map wxP).length := by rw [List.length_map]; omega
      have hiI : i < (qs.map (·.iv)).length := by rw [List.length_map]; omega
      obtain ⟨bW, pW, rfl, hcW⟩ := hRW.ne (i := i) hiW
      have hA30 : Hp w0 ((qs.map wxS).flatten :: [row b1 38 [.int .i64 o.kind, .int .i64 o.at_, .int .u64 (o.v.n : Int), .int .i64 o.many, .bool o.v.b, .slice o.dA o.v.ds.length o.dC, .slice o.qA o.ps.length o.qC, .slice o.pA o.v.p.length o.pC, strV o.v.s, .slice o.sA o.v.ss.length o.sC, .int .i64 o.most, .int .i64 o.each]] :: [row rb 31 [.slice (some ⟨bW, pW, none⟩) qs.length cW, isv, lv, wv, .int .i64 held, .bool false]] :: XW :: XI :: YB :: R) w2.drew := Hp.ord [[row b1 38 [.int .i64 o.kind, .int .i64 o.at_, .int .u64 (o.v.n : Int), .int .i64 o.many, .bool o.v.b, .slice o.dA o.v.ds.length o.dC, .slice o.qA o.ps.length o.qC, .slice o.pA o.v.p.length o.pC, strV o.v.s, .slice o.sA o.v.ss.length o.sC, .int .i64 o.most, .int .i64 o.each]], [row rb 31 [.slice (some ⟨bW, pW, none⟩) qs.length cW, isv, lv, wv, .int .i64 held, .bool false]], XW, XI, YB, (qs.map wxS).flatten] R [5, 0, 1, 2, 3, 4] hA21 rfl
      have hA31 : Hp w0 (Yq :: Zq :: (((qs.map wxS).eraseIdx i).flatten) :: [row b1 38 [.int .i64 o.kind, .int .i64 o.at_, .int .u64 (o.v.n : Int), .int .i64 o.many, .bool o.v.b, .slice o.dA o.v.ds.length o.dC, .slice o.qA o.ps.length o.qC, .slice o.pA o.v.p.length o.pC, strV o.v.s, .slice o.sA o.v.ss.length o.sC, .int .i64 o.most, .int .i64 o.each]] :: [row rb 31 [.slice (some ⟨bW, pW, none⟩) qs.length cW, isv, lv, wv, .int .i64 held, .bool false]] :: XW :: XI :: YB :: R) w2.drew := (hA30.outS hqS).part
      have tail2 : ∀ (a : Act) (x : World) (vT : Value) (XT Y1 : Seg) (b : List UInt8), b.length ≤ 2 * opCost o → Buf 5 1 XT vT b.length (dc b) → WrS wb (l ++ b) Y1 → Fr 122 [(7, vT), (8, .bool true), (0, .pointer (some ⟨rb, 0, none⟩)), (3, .pointer (some ⟨b1, 0, none⟩)), (6, .int .i64 (i : Int))] a → Hp w0 (XT :: Y1 :: Zq :: (((qs.map wxS).eraseIdx i).flatten) :: [row b1 38 [.int .i64 o.kind, .int .i64 o.at_, .int .u64 (o.v.n : Int), .int .i64 o.many, .bool o.v.b, .slice o.dA o.v.ds.length o.dC, .slice o.qA o.ps.length o.qC, .slice o.pA o.v.p.length o.pC, strV o.v.s, .slice o.sA o.v.ss.length o.sC, .int .i64 o.most, .int .i64 o.each]] :: [row rb 31 [.slice (some ⟨bW, pW, none⟩) qs.length cW, isv, lv, wv, .int .i64 held, .bool false]] :: XW :: XI :: YB :: R) x → K16 a x := by
        clear hF
        intro a x vT XT Y1 b hbl hT hY1 hF hA
        obtain ⟨_, AT, cT, rfl, _, hRT⟩ := hT.rd (w0 := w0) (R := [XT]) (List.mem_cons_self ..)
        obtain ⟨gI, BI, ZI, cJ, rfl, rfl, hWl, hIset⟩ := hI.setAt (i := i) hiq
        obtain ⟨_, _, e1, _, hRI⟩ := hI.rc (w0 := w0) (R := [[row gI 35 (BI ++ qs.map (·.iv) ++ ZI)]]) (List.mem_cons_self ..)
        injection e1 with e1 _ _
        subst e1
        obtain ⟨_, _, e2, hcI2⟩ := hRI.ne (i := i) hiI
        injection e2 with e2
        injection e2 with e3 e4
        subst e3 e4
        have hlI : BI.length + i < (BI ++ qs.map (·.iv) ++ ZI).length := by rw [List.length_append, List.length_append, hWl]; omega
        refine hK16 _ _ ?_; clear  hK16 K16
        apply wp_seq_k; intro K18 hK18
        refine wp_region_plan 15 [13,15] [0,1,2,3,4,5,6,7,8,9,10,11,12,13,14,15] (fun x => Hq w0 (XT :: Y1 :: (((qs.map wxS).eraseIdx i).flatten) :: [row b1 38 [.int .i64 o.kind, .int .i64 o.at_, .int .u64 (o.v.n : Int), .int .i64 o.many, .bool o.v.b, .slice o.dA o.v.ds.length o.dC, .slice o.qA o.ps.length o.qC, .slice o.pA o.v.p.length o.pC, strV o.v.s, .slice o.sA o.v.ss.length o.sC, .int .i64 o.most, .int .i64 o.each]] :: [row rb 31 [.slice (some ⟨bW, pW, none⟩) qs.length cW, .slice (some ⟨gI, BI.length, none⟩) qs.length cJ, lv, wv, .int .i64 held, .bool false]] :: XW :: [row gI 35 (BI ++ qs.map (·.iv) ++ ZI)] :: YB :: R) x) (by kernel_rfl) (by kernel_rfl) (Hq.drew (Hp.qp [XT, Y1, Zq, (((qs.map wxS).eraseIdx i).flatten), [row b1 38 [.int .i64 o.kind, .int .i64 o.at_, .int .u64 (o.v.n : Int), .int .i64 o.many, .bool o.v.b, .slice o.dA o.v.ds.length o.dC, .slice o.qA o.ps.length o.qC, .slice o.pA o.v.p.length o.pC, strV o.v.s, .slice o.sA o.v.ss.length o.sC, .int .i64 o.most, .int .i64 o.each]], [row rb 31 [.slice (some ⟨bW, pW, none⟩) qs.length cW, .slice (some ⟨gI, BI.length, none⟩) qs.length cJ, lv, wv, .int .i64 held, .bool false]], XW, [row gI 35 (BI ++ qs.map (·.iv) ++ ZI)], YB] R [0, 1, 3, 4, 5, 6, 7, 8] hA)) ?_
        have hA32 := Hl.drew hA
        refine vp_y hF rfl rfl rfl rfl (by decide) _ (fun x hx => y_move rfl rfl) (fun a hF => ?_)
        refine vp_y hF rfl rfl rfl rfl (by decide) _ (fun x hx => y_nilCheck rfl rfl) (fun a hF => ?_)
        refine vp_y hF rfl rfl rfl rfl (by decide) _ (fun x hx => y_field rfl Try.underlying31 rfl sz27_wt (by decide) rfl (rfl : (⟨_, 0 + _, none⟩ : Addr) = ⟨_, 1, none⟩)) (fun a hF => ?_)
        refine vp_y hF rfl rfl rfl rfl (by decide) _ (fun x hx => y_ld rfl hx rfl 4 rfl rfl nr27_wt) (fun a hF => ?_)
        refine vp_y hF rfl rfl rfl rfl (by decide) _ (fun x hx => y_move rfl rfl) (fun a hF => ?_)
        refine vp_y hF rfl rfl rfl rfl (by decide) _ (fun x hx => y_move rfl rfl) (fun a hF => ?_)
        refine vp_y hF rfl rfl rfl rfl (by decide) _ (fun x hx => y_nilCheck rfl rfl) (fun a hF => ?_)
        refine vp_y hF rfl rfl rfl rfl (by decide) _ (fun x hx => y_field rfl Try.underlying31 rfl sz27_wt (by decide) rfl (rfl : (⟨_, 0 + _, none⟩ : Addr) = ⟨_, 1, none⟩)) (fun a hF => ?_)
        refine vp_y hF rfl rfl rfl rfl (by decide) _ (fun x hx => y_ld rfl hx rfl 4 rfl rfl nr27_wt) (fun a hF => ?_)
        refine vp_y hF rfl rfl rfl rfl (by decide) _ (fun x hx => y_move rfl rfl) (fun a hF => ?_)
        refine vp_y hF rfl rfl rfl rfl (by decide) _ (fun x hx => y_ixSl rfl Try.underlying27 sz35_wt rfl rfl i rfl hiq (ad2 _ _ _)) (fun a hF => ?_)
        refine vp_y hF rfl rfl rfl rfl (by decide) _ (fun x hx => y_ldC (u := .slice AI l.length cI) rfl (Hq.sub hx (sub1 (.tail _ (.tail _ (.tail _ (.tail _ (.tail _ (.tail _ (.head _))))))))) rfl hcI2 i hiI rfl hqI nr35_wt) (fun a hF => ?_)
        refine vp_y hF rfl rfl rfl rfl (by decide) _ (fun x hx => y_move rfl rfl) (fun a hF => ?_)
        refine vp_l rfl rfl rfl (fun K hK => hs_append hF rfl (by decide) rfl hA32 2 rfl hZq Try.underlying35 ow_elem5 rfl rfl (Rc.src hRT (Hq.sub hA32.q (sub1 (.head _))) Try.underlying35) (by omega) (by decide) (fun iv2 Z2 w33 a hZ2 hF hA34 => hK _ _ (fun _ => ?_) ?_))
        · exact Hp.qp [XT, Y1, Z2, (((qs.map wxS).eraseIdx i).flatten), [row b1 38 [.int .i64 o.kind, .int .i64 o.at_, .int .u64 (o.v.n : Int), .int .i64 o.many, .bool o.v.b, .slice o.dA o.v.ds.length o.dC, .slice o.qA o.ps.length o.qC, .slice o.pA o.v.p.length o.pC, strV o.v.s, .slice o.sA o.v.ss.length o.sC, .int .i64 o.most, .int .i64 o.each]], [row rb 31 [.slice (some ⟨bW, pW, none⟩) qs.length cW, .slice (some ⟨gI, BI.length, none⟩) qs.length cJ, lv, wv, .int .i64 held, .bool false]], XW, [row gI 35 (BI ++ qs.map (·.iv) ++ ZI)], YB] R [0, 1, 3, 4, 5, 6, 7, 8] hA34
        clear hK K
        replace hA34 : Hp w0 (XT :: Y1 :: Z2 :: (((qs.map wxS).eraseIdx i).flatten) :: [row b1 38 [.int .i64 o.kind, .int .i64 o.at_, .int .u64 (o.v.n : Int), .int .i64 o.many, .bool o.v.b, .slice o.dA o.v.ds.length o.dC, .slice o.qA o.ps.length o.qC, .slice o.pA o.v.p.length o.pC, strV o.v.s, .slice o.sA o.v.ss.length o.sC, .int .i64 o.most, .int .i64 o.each]] :: [row rb 31 [.slice (some ⟨bW, pW, none⟩) qs.length cW, .slice (some ⟨gI, BI.length, none⟩) qs.length cJ, lv, wv, .int .i64 held, .bool false]] :: XW :: [row gI 35 (BI ++ qs.map (·.iv) ++ ZI)] :: YB :: R) w33 := hA34
        refine vp_y hF rfl rfl rfl rfl (by decide) _ (fun x hx => y_ixSl rfl Try.underlying27 sz35_wt rfl rfl i rfl hiq (ad2 _ _ _)) (fun a hF => ?_)
        refine vp_l rfl rfl rfl (fun K hK => hs_store1 hF rfl rfl hA34 rfl rfl 7 rfl hlI hZ2.one sz35_wt (fun w35 hA36 => hK _ _ (fun h => absurd h (by decide)) ?_))
        clear hK K
        replace hA36 : Hp w0 (XT :: Y1 :: Z2 :: (((qs.map wxS).eraseIdx i).flatten) :: [row b1 38 [.int .i64 o.kind, .int .i64 o.at_, .int .u64 (o.v.n : Int), .int .i64 o.many, .bool o.v.b, .slice o.dA o.v.ds.length o.dC, .slice o.qA o.ps.length o.qC, .slice o.pA o.v.p.length o.pC, strV o.v.s, .slice o.sA o.v.ss.length o.sC, .int .i64 o.most, .int .i64 o.each]] :: [row rb 31 [.slice (some ⟨bW, pW, none⟩) qs.length cW, .slice (some ⟨gI, BI.length, none⟩) qs.length cJ, lv, wv, .int .i64 held, .bool false]] :: XW :: [row gI 35 ((BI ++ qs.map (·.iv) ++ ZI).set (BI.length + i) iv2)] :: YB :: R) w35 := hA36
        refine plan_end ?_
        refine hK18 _ _ ?_; clear  hK18 K18
        apply wp_seq_k; intro K19 hK19
        replace hZ2 : Buf 5 1 Z2 iv2 (l ++ b).length (dc (l ++ b)) := by rw [List.length_append, dc_append]; exact hZ2
        obtain ⟨A2, c2, rfl, _⟩ := hZ2.slice
        have hI3 := hIset (.slice A2 (l ++ b).length c2)
        refine wp_region_plan 20 [9,20] [0,1,2,3,4,5,6,7,8,10,11,12,13,14,15,16,17,9,18,19,20] (fun x => Hq w0 (XT :: Y1 :: Z2 :: (((qs.map wxS).eraseIdx i).flatten) :: [row b1 38 [.int .i64 o.kind, .int .i64 o.at_, .int .u64 (o.v.n : Int), .int .i64 o.many, .bool o.v.b, .slice o.dA o.v.ds.length o.dC, .slice o.qA o.ps.length o.qC, .slice o.pA o.v.p.length o.pC, strV o.v.s, .slice o.sA o.v.ss.length o.sC, .int .i64 o.most, .int .i64 o.each]] :: [row rb 31 [.slice (some ⟨bW, pW, none⟩) qs.length cW, .slice (some ⟨gI, BI.length, none⟩) qs.length cJ, lv, wv, .int .i64 held, .bool false]] :: XW :: [row gI 35 ((BI ++ qs.map (·.iv) ++ ZI).set (BI.length + i) (.slice A2 (l ++ b).length c2))] :: YB :: R) x) (by kernel_rfl) (by kernel_rfl) (Hq.drew (Hp.qp [XT, Y1, Z2, (((qs.map wxS).eraseIdx i).flatten), [row b1 38 [.int .i64 o.kind, .int .i64 o.at_, .int .u64 (o.v.n : Int), .int .i64 o.many, .bool o.v.b, .slice o.dA o.v.ds.length o.dC, .slice o.qA o.ps.length o.qC, .slice o.pA o.v.p.length o.pC, strV o.v.s, .slice o.sA o.v.ss.length o.sC, .int .i64 o.most, .int .i64 o.each]], [row rb 31 [.slice (some ⟨bW, pW, none⟩) qs.length cW, .slice (some ⟨gI, BI.length, none⟩) qs.length cJ, lv, wv, .int .i64 held, .bool false]], XW, [row gI 35 ((BI ++ qs.map (·.iv) ++ ZI).set (BI.length + i) (.slice A2 (l ++ b).length c2))], YB] R [0, 1, 2, 3, 4, 5, 6, 7, 8] hA36)) ?_
        have hA37 := Hl.drew hA36
        refine vp_y hF rfl rfl rfl rfl (by decide) _ (fun x hx => y_move rfl rfl) (fun a hF => ?_)
        refine vp_y hF rfl rfl rfl rfl (by decide) _ (fun x hx => y_move rfl rfl) (fun a hF => ?_)
        refine vp_yg hF rfl rfl rfl rfl rfl rfl rfl (by decide) _ (fun x hx => y_move rfl rfl) (fun a hF => ?_)
        refine vp_yg hF rfl rfl rfl rfl rfl rfl rfl (by decide) _ (fun x hx => y_nilCheck rfl rfl) (fun a hF => ?_)
        refine vp_yg hF rfl rfl rfl rfl rfl rfl rfl (by decide) _ (fun x hx => y_field rfl Try.underlying31 rfl sz26_wt (by decide) rfl (rfl : (⟨_, 0 + _, none⟩ : Addr) = ⟨_, 0, none⟩)) (fun a hF => ?_)
        refine vp_yg hF rfl rfl rfl rfl rfl rfl rfl (by decide) _ (fun x hx => y_ld rfl hx rfl 5 rfl rfl nr26_wt) (fun a hF => ?_)
        refine vp_yg hF rfl rfl rfl rfl rfl rfl rfl (by decide) _ (fun x hx => y_move rfl rfl) (fun a hF => ?_)
        refine vp_yg hF rfl rfl rfl rfl rfl rfl rfl (by decide) _ (fun x hx => y_ixSl rfl Try.underlying26 sz46_wt rfl rfl i rfl hiq (ad2 _ _ _)) (fun a hF => ?_)
        refine vp_yg hF rfl rfl rfl rfl rfl rfl rfl (by decide) _ (fun x hx => y_ldC (u := .pointer (some ⟨wb, 0, none⟩)) rfl (Hq.sub hx (sub1 (.tail _ (.tail _ (.tail _ (.tail _ (.tail _ (.tail _ (.head _))))))))) rfl hcW i hiW rfl hqW nr46_wt) (fun a hF => ?_)
        refine vp_yg hF rfl rfl rfl rfl rfl rfl rfl (by decide) _ (fun x hx => y_move rfl rfl) (fun a hF => ?_)
        refine vp_yg hF rfl rfl rfl rfl rfl rfl rfl (by decide) _ (fun x hx => y_nilCheck rfl rfl) (fun a hF => ?_)
        refine vp_yg hF rfl rfl rfl rfl rfl rfl rfl (by decide) _ (fun x hx => y_field rfl Try.underlying31 rfl sz27_wt (by decide) rfl (rfl : (⟨_, 0 + _, none⟩ : Addr) = ⟨_, 1, none⟩)) (fun a hF => ?_)
        refine vp_yg hF rfl rfl rfl rfl rfl rfl rfl (by decide) _ (fun x hx => y_ld rfl hx rfl 5 rfl rfl nr27_wt) (fun a hF => ?_)
        refine vp_yg hF rfl rfl rfl rfl rfl rfl rfl (by decide) _ (fun x hx => y_move rfl rfl) (fun a hF => ?_)
        refine vp_yg hF rfl rfl rfl rfl rfl rfl rfl (by decide) _ (fun x hx => y_ixSl rfl Try.underlying27 sz35_wt rfl rfl i rfl hiq (ad2 _ _ _)) (fun a hF => ?_)
        refine vp_yg hF rfl rfl rfl rfl rfl rfl rfl (by decide) _ (fun x hx => y_ld (u := .slice A2 (l ++ b).length c2) rfl hx rfl 7 rfl (List.getElem?_set_self hlI) nr35_wt) (fun a hF => ?_)
        refine vp_yg hF rfl rfl rfl rfl rfl rfl rfl (by decide) _ (fun x hx => y_lenSl rfl Try.underlying35 rfl rfl) (fun a hF => ?_)
        have hA38 : Hp w0 (Y1 :: XT :: Z2 :: (((qs.map wxS).eraseIdx i).flatten) :: [row b1 38 [.int .i64 o.kind, .int .i64 o.at_, .int .u64 (o.v.n : Int), .int .i64 o.many, .bool o.v.b, .slice o.dA o.v.ds.length o.dC, .slice o.qA o.ps.length o.qC, .slice o.pA o.v.p.length o.pC, strV o.v.s, .slice o.sA o.v.ss.length o.sC, .int .i64 o.most, .int .i64 o.each]] :: [row rb 31 [.slice (some ⟨bW, pW, none⟩) qs.length cW, .slice (some ⟨gI, BI.length, none⟩) qs.length cJ, lv, wv, .int .i64 held, .bool false]] :: XW :: [row gI 35 ((BI ++ qs.map (·.iv) ++ ZI).set (BI.length + i) (.slice A2 (l ++ b).length c2))] :: YB :: R) w35.drew := Hp.ord [XT, Y1, Z2, (((qs.map wxS).eraseIdx i).flatten), [row b1 38 [.int .i64 o.kind, .int .i64 o.at_, .int .u64 (o.v.n : Int), .int .i64 o.many, .bool o.v.b, .slice o.dA o.v.ds.length o.dC, .slice o.qA o.ps.length o.qC, .slice o.pA o.v.p.length o.pC, strV o.v.s, .slice o.sA o.v.ss.length o.sC, .int .i64 o.most, .int .i64 o.each]], [row rb 31 [.slice (some ⟨bW, pW, none⟩) qs.length cW, .slice (some ⟨gI, BI.length, none⟩) qs.length cJ, lv, wv, .int .i64 held, .bool false]], XW, [row gI 35 ((BI ++ qs.map (·.iv) ++ ZI).set (BI.length + i) (.slice A2 (l ++ b).length c2))], YB] R [1, 0, 2, 3, 4, 5, 6, 7, 8] hA37 rfl
        refine vp_lg hF rfl rfl rfl rfl rfl rfl (fun K hK => ws_call hF rfl (by decide) cl22_wt rfl rfl ?_)
        with_reducible refine (hw_len w0 _ _ wb _ _ hY1 hA38 ).mono ?_
        rintro e' w41 ⟨rfl, rfl⟩
        refine ⟨_, rfl, fun a hF => hK _ _ (fun _ => ?_) ?_⟩
        · exact Hp.qp [Y1, XT, Z2, (((qs.map wxS).eraseIdx i).flatten), [row b1 38 [.int .i64 o.kind, .int .i64 o.at_, .int .u64 (o.v.n : Int), .int .i64 o.many, .bool o.v.b, .slice o.dA o.v.ds.length o.dC, .slice o.qA o.ps.length o.qC, .slice o.pA o.v.p.length o.pC, strV o.v.s, .slice o.sA o.v.ss.length o.sC, .int .i64 o.most, .int .i64 o.each]], [row rb 31 [.slice (some ⟨bW, pW, none⟩) qs.length cW, .slice (some ⟨gI, BI.length, none⟩) qs.length cJ, lv, wv, .int .i64 held, .bool false]], XW, [row gI 35 ((BI ++ qs.map (·.iv) ++ ZI).set (BI.length + i) (.slice A2 (l ++ b).length c2))], YB] R [1, 0, 2, 3, 4, 5, 6, 7, 8] hA38
        clear hK K
        refine vp_yg hF rfl rfl rfl rfl rfl rfl rfl (by decide) _ (fun x hx => y_cmp rfl rfl rfl rfl (eql_t rfl)) (fun a hF => ?_)
        refine vp_y hF rfl rfl rfl rfl (by decide) _ (fun x hx => y_pick rfl rfl rfl) (fun a hF => ?_)
        refine vp_ly hF rfl rfl rfl rfl (by decide) _ (y_assign rfl rfl) (fun h => absurd h (by decide)) (fun a hF => ?_)
        refine plan_end ?_
        refine hK19 _ _ ?_; clear  hK19 K19
        apply wp_ret
        refine vc_ret1 hF Try.results13 rfl ?_
        have hA42 : Hp w0 (Y1 :: Z2 :: (((qs.map wxS).eraseIdx i).flatten) :: [row rb 31 [.slice (some ⟨bW, pW, none⟩) qs.length cW, .slice (some ⟨gI, BI.length, none⟩) qs.length cJ, lv, wv, .int .i64 held, .bool false]] :: XW :: [row gI 35 ((BI ++ qs.map (·.iv) ++ ZI).set (BI.length + i) (.slice A2 (l ++ b).length c2))] :: YB :: R) w35.drew := Hp.sel [Y1, XT, Z2, (((qs.map wxS).eraseIdx i).flatten), [row b1 38 [.int .i64 o.kind, .int .i64 o.at_, .int .u64 (o.v.n : Int), .int .i64 o.many, .bool o.v.b, .slice o.dA o.v.ds.length o.dC, .slice o.qA o.ps.length o.qC, .slice o.pA o.v.p.length o.pC, strV o.v.s, .slice o.sA o.v.ss.length o.sC, .int .i64 o.most, .int .i64 o.each]], [row rb 31 [.slice (some ⟨bW, pW, none⟩) qs.length cW, .slice (some ⟨gI, BI.length, none⟩) qs.length cJ, lv, wv, .int .i64 held, .bool false]], XW, [row gI 35 ((BI ++ qs.map (·.iv) ++ ZI).set (BI.length + i) (.slice A2 (l ++ b).length c2))], YB] R [0, 2, 3, 5, 6, 7, 8] [1, 4] hA38 rfl
        have hA43 : Hp w0 ((((qs.map wxS).set i (Y1 ++ Z2)).flatten) :: [row rb 31 [.slice (some ⟨bW, pW, none⟩) qs.length cW, .slice (some ⟨gI, BI.length, none⟩) qs.length cJ, lv, wv, .int .i64 held, .bool false]] :: XW :: [row gI 35 ((BI ++ qs.map (·.iv) ++ ZI).set (BI.length + i) (.slice A2 (l ++ b).length c2))] :: YB :: R) w35.drew := (Hp.join hA42).inS (by rw [List.length_map]; omega)
        have hA44 : Hp w0 ([row rb 31 [.slice (some ⟨bW, pW, none⟩) qs.length cW, .slice (some ⟨gI, BI.length, none⟩) qs.length cJ, lv, wv, .int .i64 held, .bool false]] :: XW :: [row gI 35 ((BI ++ qs.map (·.iv) ++ ZI).set (BI.length + i) (.slice A2 (l ++ b).length c2))] :: YB :: (((qs.map wxS).set i (Y1 ++ Z2)).flatten) :: R) w35.drew := Hp.ord [(((qs.map wxS).set i (Y1 ++ Z2)).flatten), [row rb 31 [.slice (some ⟨bW, pW, none⟩) qs.length cW, .slice (some ⟨gI, BI.length, none⟩) qs.length cJ, lv, wv, .int .i64 held, .bool false]], XW, [row gI 35 ((BI ++ qs.map (·.iv) ++ ZI).set (BI.length + i) (.slice A2 (l ++ b).length c2))], YB] R [1, 2, 3, 4, 0] hA43 rfl
        have hqs2 : ∀ q ∈ qs.set i ⟨wb, l ++ b, Y1, .slice A2 (l ++ b).length c2, Z2⟩, WXok (T + 4 * opCost o) q := fun q h => by
          rcases List.mem_or_eq_of_mem_set h with h | rfl
          · exact ⟨(hqs q h).1, Nat.le_trans (hqs q h).2 (by omega)⟩
          · exact ⟨⟨hY1, hZ2⟩, by show (l ++ b).length ≤ _; rw [List.length_append]; omega⟩
        have hlen : (qs.set i ⟨wb, l ++ b, Y1, .slice A2 (l ++ b).length c2, Z2⟩).length = qs.length := List.length_set
        have hW2 : Buf 46 1 XW (.slice (some ⟨bW, pW, none⟩) qs.length cW) (qs.set i ⟨wb, l ++ b, Y1, .slice A2 (l ++ b).length c2, Z2⟩).length ((qs.set i ⟨wb, l ++ b, Y1, .slice A2 (l ++ b).length c2, Z2⟩).map wxP) := by rw [hlen, map_set_same (f := wxP) (q' := ⟨wb, l ++ b, Y1, .slice A2 (l ++ b).length c2, Z2⟩) hq rfl]; exact hW
        have hI2 : Buf 35 1 [row gI 35 ((BI ++ qs.map (·.iv) ++ ZI).set (BI.length + i) (.slice A2 (l ++ b).length c2))] (.slice (some ⟨gI, BI.length, none⟩) qs.length cJ) (qs.set i ⟨wb, l ++ b, Y1, .slice A2 (l ++ b).length c2, Z2⟩).length ((qs.set i ⟨wb, l ++ b, Y1, .slice A2 (l ++ b).length c2, Z2⟩).map (·.iv)) := by rw [hlen, List.map_set]; exact hI3
        have hfin : Hp w0 ((row rb 31 [.slice (some ⟨bW, pW, none⟩) qs.length cW, .slice (some ⟨gI, BI.length, none⟩) qs.length cJ, lv, wv, .int .i64 held, .bool false] :: (XW ++ ([row gI 35 ((BI ++ qs.map (·.iv) ++ ZI).set (BI.length + i) (.slice A2 (l ++ b).length c2))] ++ (YB ++ ((qs.set i ⟨wb, l ++ b, Y1, .slice A2 (l ++ b).length c2, Z2⟩).map wxS).flatten)))) :: R) w35.drew := by
          rw [List.map_set]
          exact hA44.cast (by simp [wxS])
        exact ⟨n, _, rfl, hn2.symm, ⟨qs.set i ⟨wb, l ++ b, Y1, .slice A2 (l ++ b).length c2, Z2⟩, _, _, lv, wv, held, ks, XW, _, YB, hlen.trans hn0, hqs2, hW2, hI2, hB, rfl⟩, hfin⟩
      apply wp_block
      apply wp_seq_k; intro K20 hK20
      apply wp_seq_k; intro K21 hK21
      refine wp_region_lit ?_
      refine vc_y hF rfl rfl (by decide) _ (y_cmp rfl rfl rfl rfl rfl) (fun a hF => ?_)
      refine vc_y hF rfl rfl (by decide) _ (y_assign rfl rfl) (fun a hF => ?_)
      refine vc_nil ?_
      refine hK21 _ _ ?_; clear  hK21 K21
      by_cases k8 : o.kind = 8
      · refine vc_trueB hF rfl (eql_t (by omega)) ?_
        apply wp_skip
        refine hK20 _ _ ?_; clear  hK20 K20
        refine vc_trueB hF rfl (eql_t (by omega)) ?_
        refine wp_region_plan 13 [8,13] [0,1,2,3,4,5,6,7,8,9,10,11,12,13] (fun x => Hq w0 (Zq :: (((qs.map wxS).eraseIdx i).flatten) :: [row b1 38 [.int .i64 o.kind, .int .i64 o.at_, .int .u64 (o.v.n : Int), .int .i64 o.many, .bool o.v.b, .slice o.dA o.v.ds.length o.dC, .slice o.qA o.ps.length o.qC, .slice o.pA o.v.p.length o.pC, strV o.v.s, .slice o.sA o.v.ss.length o.sC, .int .i64 o.most, .int .i64 o.each]] :: [row rb 31 [.slice (some ⟨bW, pW, none⟩) qs.length cW, isv, lv, wv, .int .i64 held, .bool false]] :: XW :: XI :: YB :: R) x) (by kernel_rfl) (by kernel_rfl) (Hq.drew (Hp.qp [Yq, Zq, (((qs.map wxS).eraseIdx i).flatten), [row b1 38 [.int .i64 o.kind, .int .i64 o.at_, .int .u64 (o.v.n : Int), .int .i64 o.many, .bool o.v.b, .slice o.dA o.v.ds.length o.dC, .slice o.qA o.ps.length o.qC, .slice o.pA o.v.p.length o.pC, strV o.v.s, .slice o.sA o.v.ss.length o.sC, .int .i64 o.most, .int .i64 o.each]], [row rb 31 [.slice (some ⟨bW, pW, none⟩) qs.length cW, isv, lv, wv, .int .i64 held, .bool false]], XW, XI, YB] R [1, 2, 3, 4, 5, 6, 7] hA31)) ?_
        have hA45 := Hl.drew hA31
        refine vp_y hF rfl rfl rfl rfl (by decide) _ (fun x hx => y_move rfl rfl) (fun a hF => ?_)
        refine vp_y hF rfl rfl rfl rfl (by decide) _ (fun x hx => y_nilCheck rfl rfl) (fun a hF => ?_)
        refine vp_y hF rfl rfl rfl rfl (by decide) _ (fun x hx => y_field rfl Try.underlying31 rfl sz26_wt (by decide) rfl (rfl : (⟨_, 0 + _, none⟩ : Addr) = ⟨_, 0, none⟩)) (fun a hF => ?_)
        refine vp_y hF rfl rfl rfl rfl (by decide) _ (fun x hx => y_ld rfl hx rfl 3 rfl rfl nr26_wt) (fun a hF => ?_)
        refine vp_y hF rfl rfl rfl rfl (by decide) _ (fun x hx => y_move rfl rfl) (fun a hF => ?_)
        refine vp_y hF rfl rfl rfl rfl (by decide) _ (fun x hx => y_ixSl rfl Try.underlying26 sz46_wt rfl rfl i rfl hiq (ad2 _ _ _)) (fun a hF => ?_)
        refine vp_y hF rfl rfl rfl rfl (by decide) _ (fun x hx => y_ldC (u := .pointer (some ⟨wb, 0, none⟩)) rfl (Hq.sub hx (sub1 (.tail _ (.tail _ (.tail _ (.tail _ (.head _))))))) rfl hcW i hiW rfl hqW nr46_wt) (fun a hF => ?_)
        refine vp_y hF rfl rfl rfl rfl (by decide) _ (fun x hx => y_ldRow (new := opC o) rfl hx rfl 2 rfl rw38_wt (Nat.le_of_ble_eq_true rfl) rfl) (fun a hF => ?_)
        refine vp_l rfl rfl rfl (fun K hK => ws_call hF rfl (by decide) cl47_wt rfl rfl ?_)
        with_reducible refine (ws_sized w0 _ (Zq :: (((qs.map wxS).eraseIdx i).flatten) :: [row b1 38 [.int .i64 o.kind, .int .i64 o.at_, .int .u64 (o.v.n : Int), .int .i64 o.many, .bool o.v.b, .slice o.dA o.v.ds.length o.dC, .slice o.qA o.ps.length o.qC, .slice o.pA o.v.p.length o.pC, strV o.v.s, .slice o.sA o.v.ss.length o.sC, .int .i64 o.most, .int .i64 o.each]] :: [row rb 31 [.slice (some ⟨bW, pW, none⟩) qs.length cW, isv, lv, wv, .int .i64 held, .bool false]] :: XW :: XI :: YB :: R) wb l Yq o (hok.mono (subC (subC (subC (subC (subC (subC (subC (sub0))))))))) hYq hA45 (by omega) (by omega) (by omega) ).mono ?_
        rintro e' w46 ⟨vT, XT, Y1, rfl, hT1, hY1, hA47⟩
        refine ⟨_, rfl, fun a hF => hK _ _ (fun _ => ?_) ?_⟩
        · exact Hp.qp [XT, Y1, Zq, (((qs.map wxS).eraseIdx i).flatten), [row b1 38 [.int .i64 o.kind, .int .i64 o.at_, .int .u64 (o.v.n : Int), .int .i64 o.many, .bool o.v.b, .slice o.dA o.v.ds.length o.dC, .slice o.qA o.ps.length o.qC, .slice o.pA o.v.p.length o.pC, strV o.v.s, .slice o.sA o.v.ss.length o.sC, .int .i64 o.most, .int .i64 o.each]], [row rb 31 [.slice (some ⟨bW, pW, none⟩) qs.length cW, isv, lv, wv, .int .i64 held, .bool false]], XW, XI, YB] R [2, 3, 4, 5, 6, 7, 8] hA47
        clear hK K
        replace hA47 : Hp w0 (XT :: Y1 :: Zq :: (((qs.map wxS).eraseIdx i).flatten) :: [row b1 38 [.int .i64 o.kind, .int .i64 o.at_, .int .u64 (o.v.n : Int), .int .i64 o.many, .bool o.v.b, .slice o.dA o.v.ds.length o.dC, .slice o.qA o.ps.length o.qC, .slice o.pA o.v.p.length o.pC, strV o.v.s, .slice o.sA o.v.ss.length o.sC, .int .i64 o.most, .int .i64 o.each]] :: [row rb 31 [.slice (some ⟨bW, pW, none⟩) qs.length cW, isv, lv, wv, .int .i64 held, .bool false]] :: XW :: XI :: YB :: R) w46 := hA47
        refine vp_y hF rfl rfl rfl rfl (by decide) _ (fun x hx => y_move rfl rfl) (fun a hF => ?_)
        refine vp_y hF rfl rfl rfl rfl (by decide) _ (fun x hx => y_extract (v := vT) rfl rfl rfl) (fun a hF => ?_)
        refine vp_y hF rfl rfl rfl rfl (by decide) _ (fun x hx => y_extract (v := .bool true) rfl rfl rfl) (fun a hF => ?_)
        refine vp_y hF rfl rfl rfl rfl (by decide) _ (fun x hx => y_assign rfl rfl) (fun a hF => ?_)
        refine vp_ly hF rfl rfl rfl rfl (by decide) _ (y_assign rfl rfl) (fun h => absurd h (by decide)) (fun a hF => ?_)
        refine plan_end ?_
        exact tail2 _ _ vT XT Y1 (sizedB o) (wt_sized_le o hok.d32) hT1 hY1 (hF.keep [7, 8, 0, 3, 6] rfl) hA47
      · refine vc_falseB hF rfl (eql_f (by omega)) ?_
        apply wp_seq_k; intro K22 hK22
        refine wp_region_lit ?_
        refine vc_y hF rfl rfl (by decide) _ (y_cmp rfl rfl rfl rfl rfl) (fun a hF => ?_)
        refine vc_y hF rfl rfl (by decide) _ (y_assign rfl rfl) (fun a hF => ?_)
        refine vc_nil ?_
        refine hK22 _ _ ?_; clear  hK22 K22
        by_cases k9 : o.kind = 9
        · refine vc_trueB hF rfl (eql_t (by omega)) ?_
          apply wp_skip
          refine hK20 _ _ ?_; clear  hK20 K20
          refine vc_trueB hF rfl (eql_t (by omega)) ?_
          refine wp_region_plan 13 [8,13] [0,1,2,3,4,5,6,7,8,9,10,11,12,13] (fun x => Hq w0 (Zq :: (((qs.map wxS).eraseIdx i).flatten) :: [row b1 38 [.int .i64 o.kind, .int .i64 o.at_, .int .u64 (o.v.n : Int), .int .i64 o.many, .bool o.v.b, .slice o.dA o.v.ds.length o.dC, .slice o.qA o.ps.length o.qC, .slice o.pA o.v.p.length o.pC, strV o.v.s, .slice o.sA o.v.ss.length o.sC, .int .i64 o.most, .int .i64 o.each]] :: [row rb 31 [.slice (some ⟨bW, pW, none⟩) qs.length cW, isv, lv, wv, .int .i64 held, .bool false]] :: XW :: XI :: YB :: R) x) (by kernel_rfl) (by kernel_rfl) (Hq.drew (Hp.qp [Yq, Zq, (((qs.map wxS).eraseIdx i).flatten), [row b1 38 [.int .i64 o.kind, .int .i64 o.at_, .int .u64 (o.v.n : Int), .int .i64 o.many, .bool o.v.b, .slice o.dA o.v.ds.length o.dC, .slice o.qA o.ps.length o.qC, .slice o.pA o.v.p.length o.pC, strV o.v.s, .slice o.sA o.v.ss.length o.sC, .int .i64 o.most, .int .i64 o.each]], [row rb 31 [.slice (some ⟨bW, pW, none⟩) qs.length cW, isv, lv, wv, .int .i64 held, .bool false]], XW, XI, YB] R [1, 2, 3, 4, 5, 6, 7] hA31)) ?_
          have hA48 := Hl.drew hA31
          refine vp_y hF rfl rfl rfl rfl (by decide) _ (fun x hx => y_move rfl rfl) (fun a hF => ?_)
          refine vp_y hF rfl rfl rfl rfl (by decide) _ (fun x hx => y_nilCheck rfl rfl) (fun a hF => ?_)
          refine vp_y hF rfl rfl rfl rfl (by decide) _ (fun x hx => y_field rfl Try.underlying31 rfl sz26_wt (by decide) rfl (rfl : (⟨_, 0 + _, none⟩ : Addr) = ⟨_, 0, none⟩)) (fun a hF => ?_)
          refine vp_y hF rfl rfl rfl rfl (by decide) _ (fun x hx => y_ld rfl hx rfl 3 rfl rfl nr26_wt) (fun a hF => ?_)
          refine vp_y hF rfl rfl rfl rfl (by decide) _ (fun x hx => y_move rfl rfl) (fun a hF => ?_)
          refine vp_y hF rfl rfl rfl rfl (by decide) _ (fun x hx => y_ixSl rfl Try.underlying26 sz46_wt rfl rfl i rfl hiq (ad2 _ _ _)) (fun a hF => ?_)
          refine vp_y hF rfl rfl rfl rfl (by decide) _ (fun x hx => y_ldC (u := .pointer (some ⟨wb, 0, none⟩)) rfl (Hq.sub hx (sub1 (.tail _ (.tail _ (.tail _ (.tail _ (.head _))))))) rfl hcW i hiW rfl hqW nr46_wt) (fun a hF => ?_)
          refine vp_y hF rfl rfl rfl rfl (by decide) _ (fun x hx => y_ldRow (new := opC o) rfl hx rfl 2 rfl rw38_wt (Nat.le_of_ble_eq_true rfl) rfl) (fun a hF => ?_)
          refine vp_l rfl rfl rfl (fun K hK => ws_call hF rfl (by decide) cl47_wt rfl rfl ?_)
          with_reducible refine (ws_sized w0 _ (Zq :: (((qs.map wxS).eraseIdx i).flatten) :: [row b1 38 [.int .i64 o.kind, .int .i64 o.at_, .int .u64 (o.v.n : Int), .int .i64 o.many, .bool o.v.b, .slice o.dA o.v.ds.length o.dC, .slice o.qA o.ps.length o.qC, .slice o.pA o.v.p.length o.pC, strV o.v.s, .slice o.sA o.v.ss.length o.sC, .int .i64 o.most, .int .i64 o.each]] :: [row rb 31 [.slice (some ⟨bW, pW, none⟩) qs.length cW, isv, lv, wv, .int .i64 held, .bool false]] :: XW :: XI :: YB :: R) wb l Yq o (hok.mono (subC (subC (subC (subC (subC (subC (subC (sub0))))))))) hYq hA48 (by omega) (by omega) (by omega) ).mono ?_
          rintro e' w49 ⟨vT, XT, Y1, rfl, hT1, hY1, hA50⟩
          refine ⟨_, rfl, fun a hF => hK _ _ (fun _ => ?_) ?_⟩
          · exact Hp.qp [XT, Y1, Zq, (((qs.map wxS).eraseIdx i).flatten), [row b1 38 [.int .i64 o.kind, .int .i64 o.at_, .int .u64 (o.v.n : Int), .int .i64 o.many, .bool o.v.b, .slice o.dA o.v.ds.length o.dC, .slice o.qA o.ps.length o.qC, .slice o.pA o.v.p.length o.pC, strV o.v.s, .slice o.sA o.v.ss.length o.sC, .int .i64 o.most, .int .i64 o.each]], [row rb 31 [.slice (some ⟨bW, pW, none⟩) qs.length cW, isv, lv, wv, .int .i64 held, .bool false]], XW, XI, YB] R [2, 3, 4, 5, 6, 7, 8] hA50
          clear hK K
          replace hA50 : Hp w0 (XT :: Y1 :: Zq :: (((qs.map wxS).eraseIdx i).flatten) :: [row b1 38 [.int .i64 o.kind, .int .i64 o.at_, .int .u64 (o.v.n : Int), .int .i64 o.many, .bool o.v.b, .slice o.dA o.v.ds.length o.dC, .slice o.qA o.ps.length o.qC, .slice o.pA o.v.p.length o.pC, strV o.v.s, .slice o.sA o.v.ss.length o.sC, .int .i64 o.most, .int .i64 o.each]] :: [row rb 31 [.slice (some ⟨bW, pW, none⟩) qs.length cW, isv, lv, wv, .int .i64 held, .bool false]] :: XW :: XI :: YB :: R) w49 := hA50
          refine vp_y hF rfl rfl rfl rfl (by decide) _ (fun x hx => y_move rfl rfl) (fun a hF => ?_)
          refine vp_y hF rfl rfl rfl rfl (by decide) _ (fun x hx => y_extract (v := vT) rfl rfl rfl) (fun a hF => ?_)
          refine vp_y hF rfl rfl rfl rfl (by decide) _ (fun x hx => y_extract (v := .bool true) rfl rfl rfl) (fun a hF => ?_)
          refine vp_y hF rfl rfl rfl rfl (by decide) _ (fun x hx => y_assign rfl rfl) (fun a hF => ?_)
          refine vp_ly hF rfl rfl rfl rfl (by decide) _ (y_assign rfl rfl) (fun h => absurd h (by decide)) (fun a hF => ?_)
          refine plan_end ?_
          exact tail2 _ _ vT XT Y1 (sizedB o) (wt_sized_le o hok.d32) hT1 hY1 (hF.keep [7, 8, 0, 3, 6] rfl) hA50
        · refine vc_falseB hF rfl (eql_f (by omega)) ?_
          refine wp_region_lit ?_
          refine vc_y hF rfl rfl (by decide) _ (y_cmp rfl rfl rfl rfl rfl) (fun a hF => ?_)
          refine vc_y hF rfl rfl (by decide) _ (y_assign rfl rfl) (fun a hF => ?_)
          refine vc_nil ?_
          refine hK20 _ _ ?_; clear  hK20 K20
          by_cases k10 : o.kind = 10
          · refine vc_trueB hF rfl (eql_t (by omega)) ?_
            refine wp_region_plan 13 [8,13] [0,1,2,3,4,5,6,7,8,9,10,11,12,13] (fun x => Hq w0 (Zq :: (((qs.map wxS).eraseIdx i).flatten) :: [row b1 38 [.int .i64 o.kind, .int .i64 o.at_, .int .u64 (o.v.n : Int), .int .i64 o.many, .bool o.v.b, .slice o.dA o.v.ds.length o.dC, .slice o.qA o.ps.length o.qC, .slice o.pA o.v.p.length o.pC, strV o.v.s, .slice o.sA o.v.ss.length o.sC, .int .i64 o.most, .int .i64 o.each]] :: [row rb 31 [.slice (some ⟨bW, pW, none⟩) qs.length cW, isv, lv, wv, .int .i64 held, .bool false]] :: XW :: XI :: YB :: R) x) (by kernel_rfl) (by kernel_rfl) (Hq.drew (Hp.qp [Yq, Zq, (((qs.map wxS).eraseIdx i).flatten), [row b1 38 [.int .i64 o.kind, .int .i64 o.at_, .int .u64 (o.v.n : Int), .int .i64 o.many, .bool o.v.b, .slice o.dA o.v.ds.length o.dC, .slice o.qA o.ps.length o.qC, .slice o.pA o.v.p.length o.pC, strV o.v.s, .slice o.sA o.v.ss.length o.sC, .int .i64 o.most, .int .i64 o.each]], [row rb 31 [.slice (some ⟨bW, pW, none⟩) qs.length cW, isv, lv, wv, .int .i64 held, .bool false]], XW, XI, YB] R [1, 2, 3, 4, 5, 6, 7] hA31)) ?_
            have hA51 := Hl.drew hA31
            refine vp_y hF rfl rfl rfl rfl (by decide) _ (fun x hx => y_move rfl rfl) (fun a hF => ?_)
            refine vp_y hF rfl rfl rfl rfl (by decide) _ (fun x hx => y_nilCheck rfl rfl) (fun a hF => ?_)
            refine vp_y hF rfl rfl rfl rfl (by decide) _ (fun x hx => y_field rfl Try.underlying31 rfl sz26_wt (by decide) rfl (rfl : (⟨_, 0 + _, none⟩ : Addr) = ⟨_, 0, none⟩)) (fun a hF => ?_)
            refine vp_y hF rfl rfl rfl rfl (by decide) _ (fun x hx => y_ld rfl hx rfl 3 rfl rfl nr26_wt) (fun a hF => ?_)
            refine vp_y hF rfl rfl rfl rfl (by decide) _ (fun x hx => y_move rfl rfl) (fun a hF => ?_)
            refine vp_y hF rfl rfl rfl rfl (by decide) _ (fun x hx => y_ixSl rfl Try.underlying26 sz46_wt rfl rfl i rfl hiq (ad2 _ _ _)) (fun a hF => ?_)
            refine vp_y hF rfl rfl rfl rfl (by decide) _ (fun x hx => y_ldC (u := .pointer (some ⟨wb, 0, none⟩)) rfl (Hq.sub hx (sub1 (.tail _ (.tail _ (.tail _ (.tail _ (.head _))))))) rfl hcW i hiW rfl hqW nr46_wt) (fun a hF => ?_)
            refine vp_y hF rfl rfl rfl rfl (by decide) _ (fun x hx => y_ldRow (new := opC o) rfl hx rfl 2 rfl rw38_wt (Nat.le_of_ble_eq_true rfl) rfl) (fun a hF => ?_)
            refine vp_l rfl rfl rfl (fun K hK => ws_call hF rfl (by decide) cl47_wt rfl rfl ?_)
            with_reducible refine (ws_sized w0 _ (Zq :: (((qs.map wxS).eraseIdx i).flatten) :: [row b1 38 [.int .i64 o.kind, .int .i64 o.at_, .int .u64 (o.v.n : Int), .int .i64 o.many, .bool o.v.b, .slice o.dA o.v.ds.length o.dC, .slice o.qA o.ps.length o.qC, .slice o.pA o.v.p.length o.pC, strV o.v.s, .slice o.sA o.v.ss.length o.sC, .int .i64 o.most, .int .i64 o.each]] :: [row rb 31 [.slice (some ⟨bW, pW, none⟩) qs.length cW, isv, lv, wv, .int .i64 held, .bool false]] :: XW :: XI :: YB :: R) wb l Yq o (hok.mono (subC (subC (subC (subC (subC (subC (subC (sub0))))))))) hYq hA51 (by omega) (by omega) (by omega) ).mono ?_
            rintro e' w52 ⟨vT, XT, Y1, rfl, hT1, hY1, hA53⟩
            refine ⟨_, rfl, fun a hF => hK _ _ (fun _ => ?_) ?_⟩
            · exact Hp.qp [XT, Y1, Zq, (((qs.map wxS).eraseIdx i).flatten), [row b1 38 [.int .i64 o.kind, .int .i64 o.at_, .int .u64 (o.v.n : Int), .int .i64 o.many, .bool o.v.b, .slice o.dA o.v.ds.length o.dC, .slice o.qA o.ps.length o.qC, .slice o.pA o.v.p.length o.pC, strV o.v.s, .slice o.sA o.v.ss.length o.sC, .int .i64 o.most, .int .i64 o.each]], [row rb 31 [.slice (some ⟨bW, pW, none⟩) qs.length cW, isv, lv, wv, .int .i64 held, .bool false]], XW, XI, YB] R [2, 3, 4, 5, 6, 7, 8] hA53
            clear hK K
            replace hA53 : Hp w0 (XT :: Y1 :: Zq :: (((qs.map wxS).eraseIdx i).flatten) :: [row b1 38 [.int .i64 o.kind, .int .i64 o.at_, .int .u64 (o.v.n : Int), .int .i64 o.many, .bool o.v.b, .slice o.dA o.v.ds.length o.dC, .slice o.qA o.ps.length o.qC, .slice o.pA o.v.p.length o.pC, strV o.v.s, .slice o.sA o.v.ss.length o.sC, .int .i64 o.most, .int .i64 o.each]] :: [row rb 31 [.slice (some ⟨bW, pW, none⟩) qs.length cW, isv, lv, wv, .int .i64 held, .bool false]] :: XW :: XI :: YB :: R) w52 := hA53
            refine vp_y hF rfl rfl rfl rfl (by decide) _ (fun x hx => y_move rfl rfl) (fun a hF => ?_)
            refine vp_y hF rfl rfl rfl rfl (by decide) _ (fun x hx => y_extract (v := vT) rfl rfl rfl) (fun a hF => ?_)
            refine vp_y hF rfl rfl rfl rfl (by decide) _ (fun x hx => y_extract (v := .bool true) rfl rfl rfl) (fun a hF => ?_)
            refine vp_y hF rfl rfl rfl rfl (by decide) _ (fun x hx => y_assign rfl rfl) (fun a hF => ?_)
            refine vp_ly hF rfl rfl rfl rfl (by decide) _ (y_assign rfl rfl) (fun h => absurd h (by decide)) (fun a hF => ?_)
            refine plan_end ?_
            exact tail2 _ _ vT XT Y1 (sizedB o) (wt_sized_le o hok.d32) hT1 hY1 (hF.keep [7, 8, 0, 3, 6] rfl) hA53
          · refine vc_falseB hF rfl (eql_f (by omega)) ?_
            apply wp_seq_k; intro K23 hK23
            apply wp_seq_k; intro K24 hK24
            refine wp_region_lit ?_
            refine vc_y hF rfl rfl (by decide) _ (y_cmp rfl rfl rfl rfl rfl) (fun a hF => ?_)
            refine vc_y hF rfl rfl (by decide) _ (y_assign rfl rfl) (fun a hF => ?_)
            refine vc_nil ?_
            refine hK24 _ _ ?_; clear  hK24 K24
            by_cases k1 : o.kind = 1
            · refine vc_trueB hF rfl (eql_t (by omega)) ?_
              apply wp_skip
              refine hK23 _ _ ?_; clear  hK23 K23
              refine vc_trueB hF rfl (eql_t (by omega)) ?_
              refine wp_region_plan 13 [8,13] [0,1,2,3,4,5,6,7,8,9,10,11,12,13] (fun x => Hq w0 (Zq :: (((qs.map wxS).eraseIdx i).flatten) :: [row b1 38 [.int .i64 o.kind, .int .i64 o.at_, .int .u64 (o.v.n : Int), .int .i64 o.many, .bool o.v.b, .slice o.dA o.v.ds.length o.dC, .slice o.qA o.ps.length o.qC, .slice o.pA o.v.p.length o.pC, strV o.v.s, .slice o.sA o.v.ss.length o.sC, .int .i64 o.most, .int .i64 o.each]] :: [row rb 31 [.slice (some ⟨bW, pW, none⟩) qs.length cW, isv, lv, wv, .int .i64 held, .bool false]] :: XW :: XI :: YB :: R) x) (by kernel_rfl) (by kernel_rfl) (Hq.drew (Hp.qp [Yq, Zq, (((qs.map wxS).eraseIdx i).flatten), [row b1 38 [.int .i64 o.kind, .int .i64 o.at_, .int .u64 (o.v.n : Int), .int .i64 o.many, .bool o.v.b, .slice o.dA o.v.ds.length o.dC, .slice o.qA o.ps.length o.qC, .slice o.pA o.v.p.length o.pC, strV o.v.s, .slice o.sA o.v.ss.length o.sC, .int .i64 o.most, .int .i64 o.each]], [row rb 31 [.slice (some ⟨bW, pW, none⟩) qs.length cW, isv, lv, wv, .int .i64 held, .bool false]], XW, XI, YB] R [1, 2, 3, 4, 5, 6, 7] hA31)) ?_
              have hA54 := Hl.drew hA31
              refine vp_y hF rfl rfl rfl rfl (by decide) _ (fun x hx => y_move rfl rfl) (fun a hF => ?_)
              refine vp_y hF rfl rfl rfl rfl (by decide) _ (fun x hx => y_nilCheck rfl rfl) (fun a hF => ?_)
              refine vp_y hF rfl rfl rfl rfl (by decide) _ (fun x hx => y_field rfl Try.underlying31 rfl sz26_wt (by decide) rfl (rfl : (⟨_, 0 + _, none⟩ : Addr) = ⟨_, 0, none⟩)) (fun a hF => ?_)
              refine vp_y hF rfl rfl rfl rfl (by decide) _ (fun x hx => y_ld rfl hx rfl 3 rfl rfl nr26_wt) (fun a hF => ?_)
              refine vp_y hF rfl rfl rfl rfl (by decide) _ (fun x hx => y_move rfl rfl) (fun a hF => ?_)
              refine vp_y hF rfl rfl rfl rfl (by decide) _ (fun x hx => y_ixSl rfl Try.underlying26 sz46_wt rfl rfl i rfl hiq (ad2 _ _ _)) (fun a hF => ?_)
              refine vp_y hF rfl rfl rfl rfl (by decide) _ (fun x hx => y_ldC (u := .pointer (some ⟨wb, 0, none⟩)) rfl (Hq.sub hx (sub1 (.tail _ (.tail _ (.tail _ (.tail _ (.head _))))))) rfl hcW i hiW rfl hqW nr46_wt) (fun a hF => ?_)
              refine vp_y hF rfl rfl rfl rfl (by decide) _ (fun x hx => y_ldRow (new := opC o) rfl hx rfl 2 rfl rw38_wt (Nat.le_of_ble_eq_true rfl) rfl) (fun a hF => ?_)
              refine vp_l rfl rfl rfl (fun K hK => ws_call hF rfl (by decide) cl48_wt rfl rfl ?_)
              with_reducible refine (ws_plain w0 _ (Zq :: (((qs.map wxS).eraseIdx i).flatten) :: [row b1 38 [.int .i64 o.kind, .int .i64 o.at_, .int .u64 (o.v.n : Int), .int .i64 o.many, .bool o.v.b, .slice o.dA o.v.ds.length o.dC, .slice o.qA o.ps.length o.qC, .slice o.pA o.v.p.length o.pC, strV o.v.s, .slice o.sA o.v.ss.length o.sC, .int .i64 o.most, .int .i64 o.each]] :: [row rb 31 [.slice (some ⟨bW, pW, none⟩) qs.length cW, isv, lv, wv, .int .i64 held, .bool false]] :: XW :: XI :: YB :: R) wb l Yq o (hok.mono (subC (subC (subC (subC (subC (subC (subC (sub0))))))))) hYq hA54 (by omega) (by omega) (hP.mono (subC (subC (subC (subC (subC (subC (subC (sub0))))))))) (fun p hp => by have := hpcs p hp; omega) (by omega) (by omega) ).mono ?_
              rintro e' w55 ⟨vT, XT, Y1, rfl, hT1, hY1, hA56⟩
              refine ⟨_, rfl, fun a hF => hK _ _ (fun _ => ?_) ?_⟩
              · exact Hp.qp [XT, Y1, Zq, (((qs.map wxS).eraseIdx i).flatten), [row b1 38 [.int .i64 o.kind, .int .i64 o.at_, .int .u64 (o.v.n : Int), .int .i64 o.many, .bool o.v.b, .slice o.dA o.v.ds.length o.dC, .slice o.qA o.ps.length o.qC, .slice o.pA o.v.p.length o.pC, strV o.v.s, .slice o.sA o.v.ss.length o.sC, .int .i64 o.most, .int .i64 o.each]], [row rb 31 [.slice (some ⟨bW, pW, none⟩) qs.length cW, isv, lv, wv, .int .i64 held, .bool false]], XW, XI, YB] R [2, 3, 4, 5, 6, 7, 8] hA56
              clear hK K
              replace hA56 : Hp w0 (XT :: Y1 :: Zq :: (((qs.map wxS).eraseIdx i).flatten) :: [row b1 38 [.int .i64 o.kind, .int .i64 o.at_, .int .u64 (o.v.n : Int), .int .i64 o.many, .bool o.v.b, .slice o.dA o.v.ds.length o.dC, .slice o.qA o.ps.length o.qC, .slice o.pA o.v.p.length o.pC, strV o.v.s, .slice o.sA o.v.ss.length o.sC, .int .i64 o.most, .int .i64 o.each]] :: [row rb 31 [.slice (some ⟨bW, pW, none⟩) qs.length cW, isv, lv, wv, .int .i64 held, .bool false]] :: XW :: XI :: YB :: R) w55 := hA56
              refine vp_y hF rfl rfl rfl rfl (by decide) _ (fun x hx => y_move rfl rfl) (fun a hF => ?_)
              refine vp_y hF rfl rfl rfl rfl (by decide) _ (fun x hx => y_extract (v := vT) rfl rfl rfl) (fun a hF => ?_)
              refine vp_y hF rfl rfl rfl rfl (by decide) _ (fun x hx => y_extract (v := .bool true) rfl rfl rfl) (fun a hF => ?_)
              refine vp_y hF rfl rfl rfl rfl (by decide) _ (fun x hx => y_assign rfl rfl) (fun a hF => ?_)
              refine vp_ly hF rfl rfl rfl rfl (by decide) _ (y_assign rfl rfl) (fun h => absurd h (by decide)) (fun a hF => ?_)
              refine plan_end ?_
              exact tail2 _ _ vT XT Y1 (plainB o) (wt_plain_le o hok.d32) hT1 hY1 (hF.keep [7, 8, 0, 3, 6] rfl) hA56
            · refine vc_falseB hF rfl (eql_f (by omega)) ?_
              apply wp_seq_k; intro K25 hK25
              refine wp_region_lit ?_
              refine vc_y hF rfl rfl (by decide) _ (y_cmp rfl rfl rfl rfl rfl) (fun a hF => ?_)
              refine vc_y hF rfl rfl (by decide) _ (y_assign rfl rfl) (fun a hF => ?_)
              refine vc_nil ?_
              refine hK25 _ _ ?_; clear  hK25 K25
              by_cases k2 : o.kind = 2
              · refine vc_trueB hF rfl (eql_t (by omega)) ?_
                apply wp_skip
                refine hK23 _ _ ?_; clear  hK23 K23
                refine vc_trueB hF rfl (eql_t (by omega)) ?_
                refine wp_region_plan 13 [8,13] [0,1,2,3,4,5,6,7,8,9,10,11,12,13] (fun x => Hq w0 (Zq :: (((qs.map wxS).eraseIdx i).flatten) :: [row b1 38 [.int .i64 o.kind, .int .i64 o.at_, .int .u64 (o.v.n : Int), .int .i64 o.many, .bool o.v.b, .slice o.dA o.v.ds.length o.dC, .slice o.qA o.ps.length o.qC, .slice o.pA o.v.p.length o.pC, strV o.v.s, .slice o.sA o.v.ss.length o.sC, .int .i64 o.most, .int .i64 o.each]] :: [row rb 31 [.slice (some ⟨bW, pW, none⟩) qs.length cW, isv, lv, wv, .int .i64 held, .bool false]] :: XW :: XI :: YB :: R) x) (by kernel_rfl) (by kernel_rfl) (Hq.drew (Hp.qp [Yq, Zq, (((qs.map wxS).eraseIdx i).flatten), [row b1 38 [.int .i64 o.kind, .int .i64 o.at_, .int .u64 (o.v.n : Int), .int .i64 o.many, .bool o.v.b, .slice o.dA o.v.ds.length o.dC, .slice o.qA o.ps.length o.qC, .slice o.pA o.v.p.length o.pC, strV o.v.s, .slice o.sA o.v.ss.length o.sC, .int .i64 o.most, .int .i64 o.each]], [row rb 31 [.slice (some ⟨bW, pW, none⟩) qs.length cW, isv, lv, wv, .int .i64 held, .bool false]], XW, XI, YB] R [1, 2, 3, 4, 5, 6, 7] hA31)) ?_
                have hA57 := Hl.drew hA31
                refine vp_y hF rfl rfl rfl rfl (by decide) _ (fun x hx => y_move rfl rfl) (fun a hF => ?_)
                refine vp_y hF rfl rfl rfl rfl (by decide) _ (fun x hx => y_nilCheck rfl rfl) (fun a hF => ?_)
                refine vp_y hF rfl rfl rfl rfl (by decide) _ (fun x hx => y_field rfl Try.underlying31 rfl sz26_wt (by decide) rfl (rfl : (⟨_, 0 + _, none⟩ : Addr) = ⟨_, 0, none⟩)) (fun a hF => ?_)
                refine vp_y hF rfl rfl rfl rfl (by decide) _ (fun x hx => y_ld rfl hx rfl 3 rfl rfl nr26_wt) (fun a hF => ?_)
                refine vp_y hF rfl rfl rfl rfl (by decide) _ (fun x hx => y_move rfl rfl) (fun a hF => ?_)
                refine vp_y hF rfl rfl rfl rfl (by decide) _ (fun x hx => y_ixSl rfl Try.underlying26 sz46_wt rfl rfl i rfl hiq (ad2 _ _ _)) (fun a hF => ?_)
                refine vp_y hF rfl rfl rfl rfl (by decide) _ (fun x hx => y_ldC (u := .pointer (some ⟨wb, 0, none⟩)) rfl (Hq.sub hx (sub1 (.tail _ (.tail _ (.tail _ (.tail _ (.head _))))))) rfl hcW i hiW rfl hqW nr46_wt) (fun a hF => ?_)
                refine vp_y hF rfl rfl rfl rfl (by decide) _ (fun x hx => y_ldRow (new := opC o) rfl hx rfl 2 rfl rw38_wt (Nat.le_of_ble_eq_true rfl) rfl) (fun a hF => ?_)
                refine vp_l rfl rfl rfl (fun K hK => ws_call hF rfl (by decide) cl48_wt rfl rfl ?_)
                with_reducible refine (ws_plain w0 _ (Zq :: (((qs.map wxS).eraseIdx i).flatten) :: [row b1 38 [.int .i64 o.kind, .int .i64 o.at_, .int .u64 (o.v.n : Int), .int .i64 o.many, .bool o.v.b, .slice o.dA o.v.ds.length o.dC, .slice o.qA o.ps.length o.qC, .slice o.pA o.v.p.length o.pC, strV o.v.s, .slice o.sA o.v.ss.length o.sC, .int .i64 o.most, .int .i64 o.each]] :: [row rb 31 [.slice (some ⟨bW, pW, none⟩) qs.length cW, isv, lv, wv, .int .i64 held, .bool false]] :: XW :: XI :: YB :: R) wb l Yq o (hok.mono (subC (subC (subC (subC (subC (subC (subC (sub0))))))))) hYq hA57 (by omega) (by omega) (hP.mono (subC (subC (subC (subC (subC (subC (subC (sub0))))))))) (fun p hp => by have := hpcs p hp; omega) (by omega) (by omega) ).mono ?_
                rintro e' w58 ⟨vT, XT, Y1, rfl, hT1, hY1, hA59⟩
                refine ⟨_, rfl, fun a hF => hK _ _ (fun _ => ?_) ?_⟩
                · exact Hp.qp [XT, Y1, Zq, (((qs.map wxS).eraseIdx i).flatten), [row b1 38 [.int .i64 o.kind, .int .i64 o.at_, .int .u64 (o.v.n : Int), .int .i64 o.many, .bool o.v.b, .slice o.dA o.v.ds.length o.dC, .slice o.qA o.ps.length o.qC, .slice o.pA o.v.p.length o.pC, strV o.v.s, .slice o.sA o.v.ss.length o.sC, .int .i64 o.most, .int .i64 o.each]], [row rb 31 [.slice (some ⟨bW, pW, none⟩) qs.length cW, isv, lv, wv, .int .i64 held, .bool false]], XW, XI, YB] R [2, 3, 4, 5, 6, 7, 8] hA59
                clear hK K
                replace hA59 : Hp w0 (XT :: Y1 :: Zq :: (((qs.map wxS).eraseIdx i).flatten) :: [row b1 38 [.int .i64 o.kind, .int .i64 o.at_, .int .u64 (o.v.n : Int), .int .i64 o.many, .bool o.v.b, .slice o.dA o.v.ds.length o.dC, .slice o.qA o.ps.length o.qC, .slice o.pA o.v.p.length o.pC, strV o.v.s, .slice o.sA o.v.ss.length o.sC, .int .i64 o.most, .int .i64 o.each]] :: [row rb 31 [.slice (some ⟨bW, pW, none⟩) qs.length cW, isv, lv, wv, .int .i64 held, .bool false]] :: XW :: XI :: YB :: R) w58 := hA59
                refine vp_y hF rfl rfl rfl rfl (by decide) _ (fun x hx => y_move rfl rfl) (fun a hF => ?_)
                refine vp_y hF rfl rfl rfl rfl (by decide) _ (fun x hx => y_extract (v := vT) rfl rfl rfl) (fun a hF => ?_)
                refine vp_y hF rfl rfl rfl rfl (by decide) _ (fun x hx => y_extract (v := .bool true) rfl rfl rfl) (fun a hF => ?_)
                refine vp_y hF rfl rfl rfl rfl (by decide) _ (fun x hx => y_assign rfl rfl) (fun a hF => ?_)
                refine vp_ly hF rfl rfl rfl rfl (by decide) _ (y_assign rfl rfl) (fun h => absurd h (by decide)) (fun a hF => ?_)
                refine plan_end ?_
                exact tail2 _ _ vT XT Y1 (plainB o) (wt_plain_le o hok.d32) hT1 hY1 (hF.keep [7, 8, 0, 3, 6] rfl) hA59
              · refine vc_falseB hF rfl (eql_f (by omega)) ?_
                apply wp_seq_k; intro K26 hK26
                refine wp_region_lit ?_
                refine vc_y hF rfl rfl (by decide) _ (y_cmp rfl rfl rfl rfl rfl) (fun a hF => ?_)
                refine vc_y hF rfl rfl (by decide) _ (y_assign rfl rfl) (fun a hF => ?_)
                refine vc_nil ?_
                refine hK26 _ _ ?_; clear  hK26 K26
                by_cases k3 : o.kind = 3
                · refine vc_trueB hF rfl (eql_t (by omega)) ?_
                  apply wp_skip
                  refine hK23 _ _ ?_; clear  hK23 K23
                  refine vc_trueB hF rfl (eql_t (by omega)) ?_
                  refine wp_region_plan 13 [8,13] [0,1,2,3,4,5,6,7,8,9,10,11,12,13] (fun x => Hq w0 (Zq :: (((qs.map wxS).eraseIdx i).flatten) :: [row b1 38 [.int .i64 o.kind, .int .i64 o.at_, .int .u64 (o.v.n : Int), .int .i64 o.many, .bool o.v.b, .slice o.dA o.v.ds.length o.dC, .slice o.qA o.ps.length o.qC, .slice o.pA o.v.p.length o.pC, strV o.v.s, .slice o.sA o.v.ss.length o.sC, .int .i64 o.most, .int .i64 o.each]] :: [row rb 31 [.slice (some ⟨bW, pW, none⟩) qs.length cW, isv, lv, wv, .int .i64 held, .bool false]] :: XW :: XI :: YB :: R) x) (by kernel_rfl) (by kernel_rfl) (Hq.drew (Hp.qp [Yq, Zq, (((qs.map wxS).eraseIdx i).flatten), [row b1 38 [.int .i64 o.kind, .int .i64 o.at_, .int .u64 (o.v.n : Int), .int .i64 o.many, .bool o.v.b, .slice o.dA o.v.ds.length o.dC, .slice o.qA o.ps.length o.qC, .slice o.pA o.v.p.length o.pC, strV o.v.s, .slice o.sA o.v.ss.length o.sC, .int .i64 o.most, .int .i64 o.each]], [row rb 31 [.slice (some ⟨bW, pW, none⟩) qs.length cW, isv, lv, wv, .int .i64 held, .bool false]], XW, XI, YB] R [1, 2, 3, 4, 5, 6, 7] hA31)) ?_
                  have hA60 := Hl.drew hA31
                  refine vp_y hF rfl rfl rfl rfl (by decide) _ (fun x hx => y_move rfl rfl) (fun a hF => ?_)
                  refine vp_y hF rfl rfl rfl rfl (by decide) _ (fun x hx => y_nilCheck rfl rfl) (fun a hF => ?_)
                  refine vp_y hF rfl rfl rfl rfl (by decide) _ (fun x hx => y_field rfl Try.underlying31 rfl sz26_wt (by decide) rfl (rfl : (⟨_, 0 + _, none⟩ : Addr) = ⟨_, 0, none⟩)) (fun a hF => ?_)
                  refine vp_y hF rfl rfl rfl rfl (by decide) _ (fun x hx => y_ld rfl hx rfl 3 rfl rfl nr26_wt) (fun a hF => ?_)
                  refine vp_y hF rfl rfl rfl rfl (by decide) _ (fun x hx => y_move rfl rfl) (fun a hF => ?_)
                  refine vp_y hF rfl rfl rfl rfl (by decide) _ (fun x hx => y_ixSl rfl Try.underlying26 sz46_wt rfl rfl i rfl hiq (ad2 _ _ _)) (fun a hF => ?_)
                  refine vp_y hF rfl rfl rfl rfl (by decide) _ (fun x hx => y_ldC (u := .pointer (some ⟨wb, 0, none⟩)) rfl (Hq.sub hx (sub1 (.tail _ (.tail _ (.tail _ (.tail _ (.head _))))))) rfl hcW i hiW rfl hqW nr46_wt) (fun a hF => ?_)
                  refine vp_y hF rfl rfl rfl rfl (by decide) _ (fun x hx => y_ldRow (new := opC o) rfl hx rfl 2 rfl rw38_wt (Nat.le_of_ble_eq_true rfl) rfl) (fun a hF => ?_)
                  refine vp_l rfl rfl rfl (fun K hK => ws_call hF rfl (by decide) cl48_wt rfl rfl ?_)
                  with_reducible refine (ws_plain w0 _ (Zq :: (((qs.map wxS).eraseIdx i).flatten) :: [row b1 38 [.int .i64 o.kind, .int .i64 o.at_, .int .u64 (o.v.n : Int), .int .i64 o.many, .bool o.v.b, .slice o.dA o.v.ds.length o.dC, .slice o.qA o.ps.length o.qC, .slice o.pA o.v.p.length o.pC, strV o.v.s, .slice o.sA o.v.ss.length o.sC, .int .i64 o.most, .int .i64 o.each]] :: [row rb 31 [.slice (some ⟨bW, pW, none⟩) qs.length cW, isv, lv, wv, .int .i64 held, .bool false]] :: XW :: XI :: YB :: R) wb l Yq o (hok.mono (subC (subC (subC (subC (subC (subC (subC (sub0))))))))) hYq hA60 (by omega) (by omega) (hP.mono (subC (subC (subC (subC (subC (subC (subC (sub0))))))))) (fun p hp => by have := hpcs p hp; omega) (by omega) (by omega) ).mono ?_
                  rintro e' w61 ⟨vT, XT, Y1, rfl, hT1, hY1, hA62⟩
                  refine ⟨_, rfl, fun a hF => hK _ _ (fun _ => ?_) ?_⟩
                  · exact Hp.qp [XT, Y1, Zq, (((qs.map wxS).eraseIdx i).flatten), [row b1 38 [.int .i64 o.kind, .int .i64 o.at_, .int .u64 (o.v.n : Int), .int .i64 o.many, .bool o.v.b, .slice o.dA o.v.ds.length o.dC, .slice o.qA o.ps.length o.qC, .slice o.pA o.v.p.length o.pC, strV o.v.s, .slice o.sA o.v.ss.length o.sC, .int .i64 o.most, .int .i64 o.each]], [row rb 31 [.slice (some ⟨bW, pW, none⟩) qs.length cW, isv, lv, wv, .int .i64 held, .bool false]], XW, XI, YB] R [2, 3, 4, 5, 6, 7, 8] hA62
                  clear hK K
                  replace hA62 : Hp w0 (XT :: Y1 :: Zq :: (((qs.map wxS).eraseIdx i).flatten) :: [row b1 38 [.int .i64 o.kind, .int .i64 o.at_, .int .u64 (o.v.n : Int), .int .i64 o.many, .bool o.v.b, .slice o.dA o.v.ds.length o.dC, .slice o.qA o.ps.length o.qC, .slice o.pA o.v.p.length o.pC, strV o.v.s, .slice o.sA o.v.ss.length o.sC, .int .i64 o.most, .int .i64 o.each]] :: [row rb 31 [.slice (some ⟨bW, pW, none⟩) qs.length cW, isv, lv, wv, .int .i64 held, .bool false]] :: XW :: XI :: YB :: R) w61 := hA62
                  refine vp_y hF rfl rfl rfl rfl (by decide) _ (fun x hx => y_move rfl rfl) (fun a hF => ?_)
                  refine vp_y hF rfl rfl rfl rfl (by decide) _ (fun x hx => y_extract (v := vT) rfl rfl rfl) (fun a hF => ?_)
                  refine vp_y hF rfl rfl rfl rfl (by decide) _ (fun x hx => y_extract (v := .bool true) rfl rfl rfl) (fun a hF => ?_)
                  refine vp_y hF rfl rfl rfl rfl (by decide) _ (fun x hx => y_assign rfl rfl) (fun a hF => ?_)
                  refine vp_ly hF rfl rfl rfl rfl (by decide) _ (y_assign rfl rfl) (fun h => absurd h (by decide)) (fun a hF => ?_)
                  refine plan_end ?_
                  exact tail2 _ _ vT XT Y1 (plainB o) (wt_plain_le o hok.d32) hT1 hY1 (hF.keep [7, 8, 0, 3, 6] rfl) hA62
                · refine vc_falseB hF rfl (eql_f (by omega)) ?_
                  apply wp_seq_k; intro K27 hK27
                  refine wp_region_lit ?_
                  refine vc_y hF rfl rfl (by decide) _ (y_cmp rfl rfl rfl rfl rfl) (fun a hF => ?_)
                  refine vc_y hF rfl rfl (by decide) _ (y_assign rfl rfl) (fun a hF => ?_)
                  refine vc_nil ?_
                  refine hK27 _ _ ?_; clear  hK27 K27
                  by_cases k4 : o.kind = 4
                  · refine vc_trueB hF rfl (eql_t (by omega)) ?_
                    apply wp_skip
                    refine hK23 _ _ ?_; clear  hK23 K23
                    refine vc_trueB hF rfl (eql_t (by omega)) ?_
                    refine wp_region_plan 13 [8,13] [0,1,2,3,4,5,6,7,8,9,10,11,12,13] (fun x => Hq w0 (Zq :: (((qs.map wxS).eraseIdx i).flatten) :: [row b1 38 [.int .i64 o.kind, .int .i64 o.at_, .int .u64 (o.v.n : Int), .int .i64 o.many, .bool o.v.b, .slice o.dA o.v.ds.length o.dC, .slice o.qA o.ps.length o.qC, .slice o.pA o.v.p.length o.pC, strV o.v.s, .slice o.sA o.v.ss.length o.sC, .int .i64 o.most, .int .i64 o.each]] :: [row rb 31 [.slice (some ⟨bW, pW, none⟩) qs.length cW, isv, lv, wv, .int .i64 held, .bool false]] :: XW :: XI :: YB :: R) x) (by kernel_rfl) (by kernel_rfl) (Hq.drew (Hp.qp [Yq, Zq, (((qs.map wxS).eraseIdx i).flatten), [row b1 38 [.int .i64 o.kind, .int .i64 o.at_, .int .u64 (o.v.n : Int), .int .i64 o.many, .bool o.v.b, .slice o.dA o.v.ds.length o.dC, .slice o.qA o.ps.length o.qC, .slice o.pA o.v.p.length o.pC, strV o.v.s, .slice o.sA o.v.ss.length o.sC, .int .i64 o.most, .int .i64 o.each]], [row rb 31 [.slice (some ⟨bW, pW, none⟩) qs.length cW, isv, lv, wv, .int .i64 held, .bool false]], XW, XI, YB] R [1, 2, 3, 4, 5, 6, 7] hA31)) ?_
                    have hA63 := Hl.drew hA31
                    refine vp_y hF rfl rfl rfl rfl (by decide) _ (fun x hx => y_move rfl rfl) (fun a hF => ?_)
                    refine vp_y hF rfl rfl rfl rfl (by decide) _ (fun x hx => y_nilCheck rfl rfl) (fun a hF => ?_)
                    refine vp_y hF rfl rfl rfl rfl (by decide) _ (fun x hx => y_field rfl Try.underlying31 rfl sz26_wt (by decide) rfl (rfl : (⟨_, 0 + _, none⟩ : Addr) = ⟨_, 0, none⟩)) (fun a hF => ?_)
                    refine vp_y hF rfl rfl rfl rfl (by decide) _ (fun x hx => y_ld rfl hx rfl 3 rfl rfl nr26_wt) (fun a hF => ?_)
                    refine vp_y hF rfl rfl rfl rfl (by decide) _ (fun x hx => y_move rfl rfl) (fun a hF => ?_)
                    refine vp_y hF rfl rfl rfl rfl (by decide) _ (fun x hx => y_ixSl rfl Try.underlying26 sz46_wt rfl rfl i rfl hiq (ad2 _ _ _)) (fun a hF => ?_)
                    refine vp_y hF rfl rfl rfl rfl (by decide) _ (fun x hx => y_ldC (u := .pointer (some ⟨wb, 0, none⟩)) rfl (Hq.sub hx (sub1 (.tail _ (.tail _ (.tail _ (.tail _ (.head _))))))) rfl hcW i hiW rfl hqW nr46_wt) (fun a hF => ?_)
                    refine vp_y hF rfl rfl rfl rfl (by decide) _ (fun x hx => y_ldRow (new := opC o) rfl hx rfl 2 rfl rw38_wt (Nat.le_of_ble_eq_true rfl) rfl) (fun a hF => ?_)
                    refine vp_l rfl rfl rfl (fun K hK => ws_call hF rfl (by decide) cl48_wt rfl rfl ?_)
                    with_reducible refine (ws_plain w0 _ (Zq :: (((qs.map wxS).eraseIdx i).flatten) :: [row b1 38 [.int .i64 o.kind, .int .i64 o.at_, .int .u64 (o.v.n : Int), .int .i64 o.many, .bool o.v.b, .slice o.dA o.v.ds.length o.dC, .slice o.qA o.ps.length o.qC, .slice o.pA o.v.p.length o.pC, strV o.v.s, .slice o.sA o.v.ss.length o.sC, .int .i64 o.most, .int .i64 o.each]] :: [row rb 31 [.slice (some ⟨bW, pW, none⟩) qs.length cW, isv, lv, wv, .int .i64 held, .bool false]] :: XW :: XI :: YB :: R) wb l Yq o (hok.mono (subC (subC (subC (subC (subC (subC (subC (sub0))))))))) hYq hA63 (by omega) (by omega) (hP.mono (subC (subC (subC (subC (subC (subC (subC (sub0))))))))) (fun p hp => by have := hpcs p hp; omega) (by omega) (by omega) ).mono ?_
                    rintro e' w64 ⟨vT, XT, Y1, rfl, hT1, hY1, hA65⟩
                    refine ⟨_, rfl, fun a hF => hK _ _ (fun _ => ?_) ?_⟩
                    · exact Hp.qp [XT, Y1, Zq, (((qs.map wxS).eraseIdx i).flatten), [row b1 38 [.int .i64 o.kind, .int .i64 o.at_, .int .u64 (o.v.n : Int), .int .i64 o.many, .bool o.v.b, .slice o.dA o.v.ds.length o.dC, .slice o.qA o.ps.length o.qC, .slice o.pA o.v.p.length o.pC, strV o.v.s, .slice o.sA o.v.ss.length o.sC, .int .i64 o.most, .int .i64 o.each]], [row rb 31 [.slice (some ⟨bW, pW, none⟩) qs.length cW, isv, lv, wv, .int .i64 held, .bool false]], XW, XI, YB] R [2, 3, 4, 5, 6, 7, 8] hA65
                    clear hK K
                    replace hA65 : Hp w0 (XT :: Y1 :: Zq :: (((qs.map wxS).eraseIdx i).flatten) :: [row b1 38 [.int .i64 o.kind, .int .i64 o.at_, .int .u64 (o.v.n : Int), .int .i64 o.many, .bool o.v.b, .slice o.dA o.v.ds.length o.dC, .slice o.qA o.ps.length o.qC, .slice o.pA o.v.p.length o.pC, strV o.v.s, .slice o.sA o.v.ss.length o.sC, .int .i64 o.most, .int .i64 o.each]] :: [row rb 31 [.slice (some ⟨bW, pW, none⟩) qs.length cW, isv, lv, wv, .int .i64 held, .bool false]] :: XW :: XI :: YB :: R) w64 := hA65
                    refine vp_y hF rfl rfl rfl rfl (by decide) _ (fun x hx => y_move rfl rfl) (fun a hF => ?_)
                    refine vp_y hF rfl rfl rfl rfl (by decide) _ (fun x hx => y_extract (v := vT) rfl rfl rfl) (fun a hF => ?_)
                    refine vp_y hF rfl rfl rfl rfl (by decide) _ (fun x hx => y_extract (v := .bool true) rfl rfl rfl) (fun a hF => ?_)
                    refine vp_y hF rfl rfl rfl rfl (by decide) _ (fun x hx => y_assign rfl rfl) (fun a hF => ?_)
                    refine vp_ly hF rfl rfl rfl rfl (by decide) _ (y_assign rfl rfl) (fun h => absurd h (by decide)) (fun a hF => ?_)
                    refine plan_end ?_
                    exact tail2 _ _ vT XT Y1 (plainB o) (wt_plain_le o hok.d32) hT1 hY1 (hF.keep [7, 8, 0, 3, 6] rfl) hA65
                  · refine vc_falseB hF rfl (eql_f (by omega)) ?_
                    apply wp_seq_k; intro K28 hK28
                    refine wp_region_lit ?_
                    refine vc_y hF rfl rfl (by decide) _ (y_cmp rfl rfl rfl rfl rfl) (fun a hF => ?_)
                    refine vc_y hF rfl rfl (by decide) _ (y_assign rfl rfl) (fun a hF => ?_)
                    refine vc_nil ?_
                    refine hK28 _ _ ?_; clear  hK28 K28
                    by_cases k5 : o.kind = 5
                    · refine vc_trueB hF rfl (eql_t (by omega)) ?_
                      apply wp_skip
                      refine hK23 _ _ ?_; clear  hK23 K23
                      refine vc_trueB hF rfl (eql_t (by omega)) ?_
                      refine wp_region_plan 13 [8,13] [0,1,2,3,4,5,6,7,8,9,10,11,12,13] (fun x => Hq w0 (Zq :: (((qs.map wxS).eraseIdx i).flatten) :: [row b1 38 [.int .i64 o.kind, .int .i64 o.at_, .int .u64 (o.v.n : Int), .int .i64 o.many, .bool o.v.b, .slice o.dA o.v.ds.length o.dC, .slice o.qA o.ps.length o.qC, .slice o.pA o.v.p.length o.pC, strV o.v.s, .slice o.sA o.v.ss.length o.sC, .int .i64 o.most, .int .i64 o.each]] :: [row rb 31 [.slice (some ⟨bW, pW, none⟩) qs.length cW, isv, lv, wv, .int .i64 held, .bool false]] :: XW :: XI :: YB :: R) x) (by kernel_rfl) (by kernel_rfl) (Hq.drew (Hp.qp [Yq, Zq, (((qs.map wxS).eraseIdx i).flatten), [row b1 38 [.int .i64 o.kind, .int .i64 o.at_, .int .u64 (o.v.n : Int), .int .i64 o.many, .bool o.v.b, .slice o.dA o.v.ds.length o.dC, .slice o.qA o.ps.length o.qC, .slice o.pA o.v.p.length o.pC, strV o.v.s, .slice o.sA o.v.ss.length o.sC, .int .i64 o.most, .int .i64 o.each]], [row rb 31 [.slice (some ⟨bW, pW, none⟩) qs.length cW, isv, lv, wv, .int .i64 held, .bool false]], XW, XI, YB] R [1, 2, 3, 4, 5, 6, 7] hA31)) ?_
                      have hA66 := Hl.drew hA31
                      refine vp_y hF rfl rfl rfl rfl (by decide) _ (fun x hx => y_move rfl rfl) (fun a hF => ?_)
                      refine vp_y hF rfl rfl rfl rfl (by decide) _ (fun x hx => y_nilCheck rfl rfl) (fun a hF => ?_)
                      refine vp_y hF rfl rfl rfl rfl (by decide) _ (fun x hx => y_field rfl Try.underlying31 rfl sz26_wt (by decide) rfl (rfl : (⟨_, 0 + _, none⟩ : Addr) = ⟨_, 0, none⟩)) (fun a hF => ?_)
                      refine vp_y hF rfl rfl rfl rfl (by decide) _ (fun x hx => y_ld rfl hx rfl 3 rfl rfl nr26_wt) (fun a hF => ?_)
                      refine vp_y hF rfl rfl rfl rfl (by decide) _ (fun x hx => y_move rfl rfl) (fun a hF => ?_)
                      refine vp_y hF rfl rfl rfl rfl (by decide) _ (fun x hx => y_ixSl rfl Try.underlying26 sz46_wt rfl rfl i rfl hiq (ad2 _ _ _)) (fun a hF => ?_)
                      refine vp_y hF rfl rfl rfl rfl (by decide) _ (fun x hx => y_ldC (u := .pointer (some ⟨wb, 0, none⟩)) rfl (Hq.sub hx (sub1 (.tail _ (.tail _ (.tail _ (.tail _ (.head _))))))) rfl hcW i hiW rfl hqW nr46_wt) (fun a hF => ?_)
                      refine vp_y hF rfl rfl rfl rfl (by decide) _ (fun x hx => y_ldRow (new := opC o) rfl hx rfl 2 rfl rw38_wt (Nat.le_of_ble_eq_true rfl) rfl) (fun a hF => ?_)
                      refine vp_l rfl rfl rfl (fun K hK => ws_call hF rfl (by decide) cl48_wt rfl rfl ?_)
                      with_reducible refine (ws_plain w0 _ (Zq :: (((qs.map wxS).eraseIdx i).flatten) :: [row b1 38 [.int .i64 o.kind, .int .i64 o.at_, .int .u64 (o.v.n : Int), .int .i64 o.many, .bool o.v.b, .slice o.dA o.v.ds.length o.dC, .slice o.qA o.ps.length o.qC, .slice o.pA o.v.p.length o.pC, strV o.v.s, .slice o.sA o.v.ss.length o.sC, .int .i64 o.most, .int .i64 o.each]] :: [row rb 31 [.slice (some ⟨bW, pW, none⟩) qs.length cW, isv, lv, wv, .int .i64 held, .bool false]] :: XW :: XI :: YB :: R) wb l Yq o (hok.mono (subC (subC (subC (subC (subC (subC (subC (sub0))))))))) hYq hA66 (by omega) (by omega) (hP.mono (subC (subC (subC (subC (subC (subC (subC (sub0))))))))) (fun p hp => by have := hpcs p hp; omega) (by omega) (by omega) ).mono ?_
                      rintro e' w67 ⟨vT, XT, Y1, rfl, hT1, hY1, hA68⟩
                      refine ⟨_, rfl, fun a hF => hK _ _ (fun _ => ?_) ?_⟩
                      · exact Hp.qp [XT, Y1, Zq, (((qs.map wxS).eraseIdx i).flatten), [row b1 38 [.int .i64 o.kind, .int .i64 o.at_, .int .u64 (o.v.n : Int), .int .i64 o.many, .bool o.v.b, .slice o.dA o.v.ds.length o.dC, .slice o.qA o.ps.length o.qC, .slice o.pA o.v.p.length o.pC, strV o.v.s, .slice o.sA o.v.ss.length o.sC, .int .i64 o.most, .int .i64 o.each]], [row rb 31 [.slice (some ⟨bW, pW, none⟩) qs.length cW, isv, lv, wv, .int .i64 held, .bool false]], XW, XI, YB] R [2, 3, 4, 5, 6, 7, 8] hA68
                      clear hK K
                      replace hA68 : Hp w0 (XT :: Y1 :: Zq :: (((qs.map wxS).eraseIdx i).flatten) :: [row b1 38 [.int .i64 o.kind, .int .i64 o.at_, .int .u64 (o.v.n : Int), .int .i64 o.many, .bool o.v.b, .slice o.dA o.v.ds.length o.dC, .slice o.qA o.ps.length o.qC, .slice o.pA o.v.p.length o.pC, strV o.v.s, .slice o.sA o.v.ss.length o.sC, .int .i64 o.most, .int .i64 o.each]] :: [row rb 31 [.slice (some ⟨bW, pW, none⟩) qs.length cW, isv, lv, wv, .int .i64 held, .bool false]] :: XW :: XI :: YB :: R) w67 := hA68
                      refine vp_y hF rfl rfl rfl rfl (by decide) _ (fun x hx => y_move rfl rfl) (fun a hF => ?_)
                      refine vp_y hF rfl rfl rfl rfl (by decide) _ (fun x hx => y_extract (v := vT) rfl rfl rfl) (fun a hF => ?_)
                      refine vp_y hF rfl rfl rfl rfl (by decide) _ (fun x hx => y_extract (v := .bool true) rfl rfl rfl) (fun a hF => ?_)
                      refine vp_y hF rfl rfl rfl rfl (by decide) _ (fun x hx => y_assign rfl rfl) (fun a hF => ?_)
                      refine vp_ly hF rfl rfl rfl rfl (by decide) _ (y_assign rfl rfl) (fun h => absurd h (by decide)) (fun a hF => ?_)
                      refine plan_end ?_
                      exact tail2 _ _ vT XT Y1 (plainB o) (wt_plain_le o hok.d32) hT1 hY1 (hF.keep [7, 8, 0, 3, 6] rfl) hA68
                    · refine vc_falseB hF rfl (eql_f (by omega)) ?_
                      apply wp_seq_k; intro K29 hK29
                      refine wp_region_lit ?_
                      refine vc_y hF rfl rfl (by decide) _ (y_cmp rfl rfl rfl rfl rfl) (fun a hF => ?_)
                      refine vc_y hF rfl rfl (by decide) _ (y_assign rfl rfl) (fun a hF => ?_)
                      refine vc_nil ?_
                      refine hK29 _ _ ?_; clear  hK29 K29
                      by_cases k6 : o.kind = 6
                      · refine vc_trueB hF rfl (eql_t (by omega)) ?_
                        apply wp_skip
                        refine hK23 _ _ ?_; clear  hK23 K23
                        refine vc_trueB hF rfl (eql_t (by omega)) ?_
                        refine wp_region_plan 13 [8,13] [0,1,2,3,4,5,6,7,8,9,10,11,12,13] (fun x => Hq w0 (Zq :: (((qs.map wxS).eraseIdx i).flatten) :: [row b1 38 [.int .i64 o.kind, .int .i64 o.at_, .int .u64 (o.v.n : Int), .int .i64 o.many, .bool o.v.b, .slice o.dA o.v.ds.length o.dC, .slice o.qA o.ps.length o.qC, .slice o.pA o.v.p.length o.pC, strV o.v.s, .slice o.sA o.v.ss.length o.sC, .int .i64 o.most, .int .i64 o.each]] :: [row rb 31 [.slice (some ⟨bW, pW, none⟩) qs.length cW, isv, lv, wv, .int .i64 held, .bool false]] :: XW :: XI :: YB :: R) x) (by kernel_rfl) (by kernel_rfl) (Hq.drew (Hp.qp [Yq, Zq, (((qs.map wxS).eraseIdx i).flatten), [row b1 38 [.int .i64 o.kind, .int .i64 o.at_, .int .u64 (o.v.n : Int), .int .i64 o.many, .bool o.v.b, .slice o.dA o.v.ds.length o.dC, .slice o.qA o.ps.length o.qC, .slice o.pA o.v.p.length o.pC, strV o.v.s, .slice o.sA o.v.ss.length o.sC, .int .i64 o.most, .int .i64 o.each]], [row rb 31 [.slice (some ⟨bW, pW, none⟩) qs.length cW, isv, lv, wv, .int .i64 held, .bool false]], XW, XI, YB] R [1, 2, 3, 4, 5, 6, 7] hA31)) ?_
                        have hA69 := Hl.drew hA31
                        refine vp_y hF rfl rfl rfl rfl (by decide) _ (fun x hx => y_move rfl rfl) (fun a hF => ?_)
                        refine vp_y hF rfl rfl rfl rfl (by decide) _ (fun x hx => y_nilCheck rfl rfl) (fun a hF => ?_)
                        refine vp_y hF rfl rfl rfl rfl (by decide) _ (fun x hx => y_field rfl Try.underlying31 rfl sz26_wt (by decide) rfl (rfl : (⟨_, 0 + _, none⟩ : Addr) = ⟨_, 0, none⟩)) (fun a hF => ?_)
                        refine vp_y hF rfl rfl rfl rfl (by decide) _ (fun x hx => y_ld rfl hx rfl 3 rfl rfl nr26_wt) (fun a hF => ?_)
                        refine vp_y hF rfl rfl rfl rfl (by decide) _ (fun x hx => y_move rfl rfl) (fun a hF => ?_)
                        refine vp_y hF rfl rfl rfl rfl (by decide) _ (fun x hx => y_ixSl rfl Try.underlying26 sz46_wt rfl rfl i rfl hiq (ad2 _ _ _)) (fun a hF => ?_)
                        refine vp_y hF rfl rfl rfl rfl (by decide) _ (fun x hx => y_ldC (u := .pointer (some ⟨wb, 0, none⟩)) rfl (Hq.sub hx (sub1 (.tail _ (.tail _ (.tail _ (.tail _ (.head _))))))) rfl hcW i hiW rfl hqW nr46_wt) (fun a hF => ?_)
                        refine vp_y hF rfl rfl rfl rfl (by decide) _ (fun x hx => y_ldRow (new := opC o) rfl hx rfl 2 rfl rw38_wt (Nat.le_of_ble_eq_true rfl) rfl) (fun a hF => ?_)
                        refine vp_l rfl rfl rfl (fun K hK => ws_call hF rfl (by decide) cl48_wt rfl rfl ?_)
                        with_reducible refine (ws_plain w0 _ (Zq :: (((qs.map wxS).eraseIdx i).flatten) :: [row b1 38 [.int .i64 o.kind, .int .i64 o.at_, .int .u64 (o.v.n : Int), .int .i64 o.many, .bool o.v.b, .slice o.dA o.v.ds.length o.dC, .slice o.qA o.ps.length o.qC, .slice o.pA o.v.p.length o.pC, strV o.v.s, .slice o.sA o.v.ss.length o.sC, .int .i64 o.most, .int .i64 o.each]] :: [row rb 31 [.slice (some ⟨bW, pW, none⟩) qs.length cW, isv, lv, wv, .int .i64 held, .bool false]] :: XW :: XI :: YB :: R) wb l Yq o (hok.mono (subC (subC (subC (subC (subC (subC (subC (sub0))))))))) hYq hA69 (by omega) (by omega) (hP.mono (subC (subC (subC (subC (subC (subC (subC (sub0))))))))) (fun p hp => by have := hpcs p hp; omega) (by omega) (by omega) ).mono ?_
                        rintro e' w70 ⟨vT, XT, Y1, rfl, hT1, hY1, hA71⟩
                        refine ⟨_, rfl, fun a hF => hK _ _ (fun _ => ?_) ?_⟩
                        · exact Hp.qp [XT, Y1, Zq, (((qs.map wxS).eraseIdx i).flatten), [row b1 38 [.int .i64 o.kind, .int .i64 o.at_, .int .u64 (o.v.n : Int), .int .i64 o.many, .bool o.v.b, .slice o.dA o.v.ds.length o.dC, .slice o.qA o.ps.length o.qC, .slice o.pA o.v.p.length o.pC, strV o.v.s, .slice o.sA o.v.ss.length o.sC, .int .i64 o.most, .int .i64 o.each]], [row rb 31 [.slice (some ⟨bW, pW, none⟩) qs.length cW, isv, lv, wv, .int .i64 held, .bool false]], XW, XI, YB] R [2, 3, 4, 5, 6, 7, 8] hA71
                        clear hK K
                        replace hA71 : Hp w0 (XT :: Y1 :: Zq :: (((qs.map wxS).eraseIdx i).flatten) :: [row b1 38 [.int .i64 o.kind, .int .i64 o.at_, .int .u64 (o.v.n : Int), .int .i64 o.many, .bool o.v.b, .slice o.dA o.v.ds.length o.dC, .slice o.qA o.ps.length o.qC, .slice o.pA o.v.p.length o.pC, strV o.v.s, .slice o.sA o.v.ss.length o.sC, .int .i64 o.most, .int .i64 o.each]] :: [row rb 31 [.slice (some ⟨bW, pW, none⟩) qs.length cW, isv, lv, wv, .int .i64 held, .bool false]] :: XW :: XI :: YB :: R) w70 := hA71
                        refine vp_y hF rfl rfl rfl rfl (by decide) _ (fun x hx => y_move rfl rfl) (fun a hF => ?_)
                        refine vp_y hF rfl rfl rfl rfl (by decide) _ (fun x hx => y_extract (v := vT) rfl rfl rfl) (fun a hF => ?_)
                        refine vp_y hF rfl rfl rfl rfl (by decide) _ (fun x hx => y_extract (v := .bool true) rfl rfl rfl) (fun a hF => ?_)
                        refine vp_y hF rfl rfl rfl rfl (by decide) _ (fun x hx => y_assign rfl rfl) (fun a hF => ?_)
                        refine vp_ly hF rfl rfl rfl rfl (by decide) _ (y_assign rfl rfl) (fun h => absurd h (by decide)) (fun a hF => ?_)
                        refine plan_end ?_
                        exact tail2 _ _ vT XT Y1 (plainB o) (wt_plain_le o hok.d32) hT1 hY1 (hF.keep [7, 8, 0, 3, 6] rfl) hA71
                      · refine vc_falseB hF rfl (eql_f (by omega)) ?_
                        refine wp_region_lit ?_
                        refine vc_y hF rfl rfl (by decide) _ (y_cmp rfl rfl rfl rfl rfl) (fun a hF => ?_)
                        refine vc_y hF rfl rfl (by decide) _ (y_assign rfl rfl) (fun a hF => ?_)
                        refine vc_nil ?_
                        refine hK23 _ _ ?_; clear  hK23 K23
                        by_cases k7 : o.kind = 7
                        · refine vc_trueB hF rfl (eql_t (by omega)) ?_
                          refine wp_region_plan 13 [8,13] [0,1,2,3,4,5,6,7,8,9,10,11,12,13] (fun x => Hq w0 (Zq :: (((qs.map wxS).eraseIdx i).flatten) :: [row b1 38 [.int .i64 o.kind, .int .i64 o.at_, .int .u64 (o.v.n : Int), .int .i64 o.many, .bool o.v.b, .slice o.dA o.v.ds.length o.dC, .slice o.qA o.ps.length o.qC, .slice o.pA o.v.p.length o.pC, strV o.v.s, .slice o.sA o.v.ss.length o.sC, .int .i64 o.most, .int .i64 o.each]] :: [row rb 31 [.slice (some ⟨bW, pW, none⟩) qs.length cW, isv, lv, wv, .int .i64 held, .bool false]] :: XW :: XI :: YB :: R) x) (by kernel_rfl) (by kernel_rfl) (Hq.drew (Hp.qp [Yq, Zq, (((qs.map wxS).eraseIdx i).flatten), [row b1 38 [.int .i64 o.kind, .int .i64 o.at_, .int .u64 (o.v.n : Int), .int .i64 o.many, .bool o.v.b, .slice o.dA o.v.ds.length o.dC, .slice o.qA o.ps.length o.qC, .slice o.pA o.v.p.length o.pC, strV o.v.s, .slice o.sA o.v.ss.length o.sC, .int .i64 o.most, .int .i64 o.each]], [row rb 31 [.slice (some ⟨bW, pW, none⟩) qs.length cW, isv, lv, wv, .int .i64 held, .bool false]], XW, XI, YB] R [1, 2, 3, 4, 5, 6, 7] hA31)) ?_
                          have hA72 := Hl.drew hA31
                          refine vp_y hF rfl rfl rfl rfl (by decide) _ (fun x hx => y_move rfl rfl) (fun a hF => ?_)
                          refine vp_y hF rfl rfl rfl rfl (by decide) _ (fun x hx => y_nilCheck rfl rfl) (fun a hF => ?_)
                          refine vp_y hF rfl rfl rfl rfl (by decide) _ (fun x hx => y_field rfl Try.underlying31 rfl sz26_wt (by decide) rfl (rfl : (⟨_, 0 + _, none⟩ : Addr) = ⟨_, 0, none⟩)) (fun a hF => ?_)
                          refine vp_y hF rfl rfl rfl rfl (by decide) _ (fun x hx => y_ld rfl hx rfl 3 rfl rfl nr26_wt) (fun a hF => ?_)
                          refine vp_y hF rfl rfl rfl rfl (by decide) _ (fun x hx => y_move rfl rfl) (fun a hF => ?_)
                          refine vp_y hF rfl rfl rfl rfl (by decide) _ (fun x hx => y_ixSl rfl Try.underlying26 sz46_wt rfl rfl i rfl hiq (ad2 _ _ _)) (fun a hF => ?_)
                          refine vp_y hF rfl rfl rfl rfl (by decide) _ (fun x hx => y_ldC (u := .pointer (some ⟨wb, 0, none⟩)) rfl (Hq.sub hx (sub1 (.tail _ (.tail _ (.tail _ (.tail _ (.head _))))))) rfl hcW i hiW rfl hqW nr46_wt) (fun a hF => ?_)
                          refine vp_y hF rfl rfl rfl rfl (by decide) _ (fun x hx => y_ldRow (new := opC o) rfl hx rfl 2 rfl rw38_wt (Nat.le_of_ble_eq_true rfl) rfl) (fun a hF => ?_)
                          refine vp_l rfl rfl rfl (fun K hK => ws_call hF rfl (by decide) cl48_wt rfl rfl ?_)
                          with_reducible refine (ws_plain w0 _ (Zq :: (((qs.map wxS).eraseIdx i).flatten) :: [row b1 38 [.int .i64 o.kind, .int .i64 o.at_, .int .u64 (o.v.n : Int), .int .i64 o.many, .bool o.v.b, .slice o.dA o.v.ds.length o.dC, .slice o.qA o.ps.length o.qC, .slice o.pA o.v.p.length o.pC, strV o.v.s, .slice o.sA o.v.ss.length o.sC, .int .i64 o.most, .int .i64 o.each]] :: [row rb 31 [.slice (some ⟨bW, pW, none⟩) qs.length cW, isv, lv, wv, .int .i64 held, .bool false]] :: XW :: XI :: YB :: R) wb l Yq o (hok.mono (subC (subC (subC (subC (subC (subC (subC (sub0))))))))) hYq hA72 (by omega) (by omega) (hP.mono (subC (subC (subC (subC (subC (subC (subC (sub0))))))))) (fun p hp => by have := hpcs p hp; omega) (by omega) (by omega) ).mono ?_
                          rintro e' w73 ⟨vT, XT, Y1, rfl, hT1, hY1, hA74⟩
                          refine ⟨_, rfl, fun a hF => hK _ _ (fun _ => ?_) ?_⟩
                          · exact Hp.qp [XT, Y1, Zq, (((qs.map wxS).eraseIdx i).flatten), [row b1 38 [.int .i64 o.kind, .int .i64 o.at_, .int .u64 (o.v.n : Int), .int .i64 o.many, .bool o.v.b, .slice o.dA o.v.ds.length o.dC, .slice o.qA o.ps.length o.qC, .slice o.pA o.v.p.length o.pC, strV o.v.s, .slice o.sA o.v.ss.length o.sC, .int .i64 o.most, .int .i64 o.each]], [row rb 31 [.slice (some ⟨bW, pW, none⟩) qs.length cW, isv, lv, wv, .int .i64 held, .bool false]], XW, XI, YB] R [2, 3, 4, 5, 6, 7, 8] hA74
                          clear hK K
                          replace hA74 : Hp w0 (XT :: Y1 :: Zq :: (((qs.map wxS).eraseIdx i).flatten) :: [row b1 38 [.int .i64 o.kind, .int .i64 o.at_, .int .u64 (o.v.n : Int), .int .i64 o.many, .bool o.v.b, .slice o.dA o.v.ds.length o.dC, .slice o.qA o.ps.length o.qC, .slice o.pA o.v.p.length o.pC, strV o.v.s, .slice o.sA o.v.ss.length o.sC, .int .i64 o.most, .int .i64 o.each]] :: [row rb 31 [.slice (some ⟨bW, pW, none⟩) qs.length cW, isv, lv, wv, .int .i64 held, .bool false]] :: XW :: XI :: YB :: R) w73 := hA74
                          refine vp_y hF rfl rfl rfl rfl (by decide) _ (fun x hx => y_move rfl rfl) (fun a hF => ?_)
                          refine vp_y hF rfl rfl rfl rfl (by decide) _ (fun x hx => y_extract (v := vT) rfl rfl rfl) (fun a hF => ?_)
                          refine vp_y hF rfl rfl rfl rfl (by decide) _ (fun x hx => y_extract (v := .bool true) rfl rfl rfl) (fun a hF => ?_)
                          refine vp_y hF rfl rfl rfl rfl (by decide) _ (fun x hx => y_assign rfl rfl) (fun a hF => ?_)
                          refine vp_ly hF rfl rfl rfl rfl (by decide) _ (y_assign rfl rfl) (fun h => absurd h (by decide)) (fun a hF => ?_)
                          refine plan_end ?_
                          exact tail2 _ _ vT XT Y1 (plainB o) (wt_plain_le o hok.d32) hT1 hY1 (hF.keep [7, 8, 0, 3, 6] rfl) hA74
                        · refine vc_falseB hF rfl (eql_f (by omega)) ?_
                          have hA75 : Hp w0 (([] : Seg) :: Yq :: Zq :: (((qs.map wxS).eraseIdx i).flatten) :: [row b1 38 [.int .i64 o.kind, .int .i64 o.at_, .int .u64 (o.v.n : Int), .int .i64 o.many, .bool o.v.b, .slice o.dA o.v.ds.length o.dC, .slice o.qA o.ps.length o.qC, .slice o.pA o.v.p.length o.pC, strV o.v.s, .slice o.sA o.v.ss.length o.sC, .int .i64 o.most, .int .i64 o.each]] :: [row rb 31 [.slice (some ⟨bW, pW, none⟩) qs.length cW, isv, lv, wv, .int .i64 held, .bool false]] :: XW :: XI :: YB :: R) w2.drew := Hp.nil hA31
                          apply wp_skip
                          exact tail2 _ _ (.slice none 0 0) [] Yq [] (Nat.zero_le _) (Buf.nil _ _) (by rw [List.append_nil]; exact hYq) (hF.keep [7, 8, 0, 3, 6] rfl) hA75
end Go.Proofs.Ythphfbohhbkdgaa
