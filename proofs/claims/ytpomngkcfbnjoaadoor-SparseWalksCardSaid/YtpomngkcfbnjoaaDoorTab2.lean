/- The digest's table: Entry, Within, Equal, Clone, Clash. -/
import Derived.Test.YtpomngkcfbnjoaaDoorTab
import Derived.Test.YtpomngkcfbnjoaaDoorMap
namespace Go.Proofs.YtpomngkcfbnjoaaDoor
open Go.RowKit Go.Dk

/-- the number's 64 bits -/
def c64 (z : Int) : Nat := (z % 18446744073709551616).toNat
theorem c64_lt (z : Int) : c64 z < 2 ^ 64 := by unfold c64; omega
theorem c64_wrap (z : Int) : IntKind.u64.wrap z = (c64 z : Int) := by rw [IntKind.wrap_u64]; unfold c64; omega
def withinI (n lo hi : Int) : Int := lo + n.emod (hi - lo + 1)
theorem tb_noInt : notRow Tryd.prog 3 = true := by kernel_rfl
theorem sz3_t2 : (Tryd.prog.info? 3).map (·.size) = some 1 := by kernel_rfl
theorem sz36_t2 : (Tryd.prog.info? 23).map (·.size) = some 32 := by kernel_rfl
theorem cl51_t2 : CallsTo Tryd.prog 102 := ⟨_, Tryd.func102, by kernel_rfl, by kernel_rfl⟩
theorem cl70_t2 : CallsTo Tryd.prog 97 := ⟨_, Tryd.func97, by kernel_rfl, by kernel_rfl⟩
theorem cl71_t2 : CallsTo Tryd.prog 101 := ⟨_, Tryd.func101, by kernel_rfl, by kernel_rfl⟩
theorem cl72_t2 : CallsTo Tryd.prog 100 := ⟨_, Tryd.func100, by kernel_rfl, by kernel_rfl⟩

theorem Wr.drew {w0 : World} {wb : Nat} {R X : List Row} {v : Value} {l : List UInt8} {w : World} (h : Wr w0 wb R X v l w) : Wr w0 wb R X v l w.drew := ⟨h.1, h.2.drew⟩

set_option maxRecDepth 100000 in
set_option maxHeartbeats 1000000 in
theorem entry_any (w : World) (width C : Int) (X Y : List UInt8) (hX : X.length = 32) (hY : Y.length = 32) (hT : Tab w) :
    Calls Tryd.prog 83 #[.int .i64 width, .agg (dc X).toArray, .agg (.int .i64 C :: dc Y).toArray] w fun e w' => e = .returned (.agg (dc (ofL width 3 (X ++ be 8 (c64 C) ++ Y))).toArray) ∧ At w [] w' := by
  have hA0 := At.refl w
  have hpos : 0 < w.heap.size := hT.lt
  refine vc_enter Tryd.func83 rfl Tryd.ntmps83 (Nat.le_of_ble_eq_true rfl) (fun a hF => ?_)
  apply wp_seq_k; intro K1 hK1
  refine wp_region_lit ?_
  refine vc_op rfl (fun K hK => ws_box (cs := dc X) hF rfl (by decide) rfl hA0 rfl (fun b4 w1 a hb4 hF hA1 => hK _ _ ?_))
  clear hK K
  refine vc_op rfl (fun K hK => ws_box (cs := (.int .i64 C :: dc Y)) hF rfl (by decide) rfl hA1 rfl (fun b5 w2 a hb5 hF hA2 => hK _ _ ?_))
  clear hK K
  have q5 : w.heap.size ≤ b5 := by have := hA1.size; omega
  refine vc_op rfl (fun K hK => ws_alloc hF rfl (by decide) rfl hA2 zero36 (fun b6 w3 a hb6 hF hA3 => hK _ _ ?_))
  clear hK K
  replace hA3 : At w [(b6, 23, dc (List.replicate 32 0)), (b5, 25, (.int .i64 C :: dc Y)), (b4, 23, dc X)] w3 := hA3
  refine vc_nil ?_
  refine hK1 _ _ ?_; clear  hK1 K1
  apply wp_seq_k; intro K2 hK2
  refine wp_region_lit ?_
  refine vc_op rfl (fun K hK => ws_call hF rfl (by decide) cl70_t2 rfl rfl ?_)
  with_reducible refine (ow_new_any w3).mono ?_
  rintro e' w4 ⟨g, rfl, hg, hA4⟩
  refine ⟨_, rfl, fun a hF => hK _ _ ?_⟩; clear hK K
  have q6 : w.heap.size ≤ b6 := by have := hA2.size; omega
  have qg : w.heap.size ≤ g := by have := hA3.size; omega
  have hA4w : At w ([(g, 160, [.slice none 0 0])] ++ [(b6, 23, dc (List.replicate 32 0)), (b5, 25, (.int .i64 C :: dc Y)), (b4, 23, dc X)]) w4 := hA3.thenNew hA4 (one_new hg)
  have hW4 : Wr w g [(b6, 23, dc (List.replicate 32 0)), (b5, 25, (.int .i64 C :: dc Y)), (b4, 23, dc X)] [] (.slice none 0 0) [] w4 := ⟨Own.nil w 5 1, by rw [List.append_nil]; exact hA4w⟩
  clear hA4
  refine vc_y hF rfl rfl (by decide) _ (y_assign rfl rfl) (fun a hF => ?_)
  refine vc_nil ?_
  refine hK2 _ _ ?_; clear  hK2 K2
  apply wp_seq_k; intro K3 hK3
  refine wp_region_lit ?_
  refine vc_y hF rfl rfl (by decide) _ (y_move rfl rfl) (fun a hF => ?_)
  refine vc_y hF rfl rfl (by decide) _ (y_field rfl Tryd.underlying25 rfl sz3_t2 (by decide) rfl (rfl : (⟨_, 0 + _, none⟩ : Addr) = ⟨_, 0, none⟩)) (fun a hF => ?_)
  refine vc_y hF rfl rfl (by decide) _ (y_loadAt rfl hA4w rfl 2 rfl rfl tb_noInt) (fun a hF => ?_)
  refine vc_y hF rfl rfl (by decide) _ (y_conv rfl Tryd.underlying3 Tryd.underlying129 rfl (c64_wrap C)) (fun a hF => ?_)
  refine vc_op rfl (fun K hK => ws_call hF rfl (by decide) cl71_t2 rfl rfl ?_)
  with_reducible refine (ow_put_uint64 w w4 g [(b6, 23, dc (List.replicate 32 0)), (b5, 25, (.int .i64 C :: dc Y)), (b4, 23, dc X)] [] _ [] (c64 C) (c64_lt C) _ rfl hW4 (by decide)).mono ?_
  rintro e' w5 ⟨rfl, v5, X5, hW5⟩
  refine ⟨_, rfl, fun a hF => hK _ _ ?_⟩; clear hK K
  replace hW5 : Wr w g [(b6, 23, dc (List.replicate 32 0)), (b5, 25, (.int .i64 C :: dc Y)), (b4, 23, dc X)] X5 v5 (be 8 (c64 C)) w5 := hW5
  refine vc_nil ?_
  refine hK3 _ _ ?_; clear  hK3 K3
  apply wp_seq_k; intro K4 hK4
  refine wp_region_plan 7 [3,6,7,8] [0,1,2,4,5,3,6,7,8] (fun _ => True) (by kernel_rfl) (by kernel_rfl) (trivial) ?_
  refine vp_y hF rfl rfl rfl rfl (by decide) _ (fun x hx => y_move rfl rfl) (fun a hF => ?_)
  refine vp_y hF rfl rfl rfl rfl (by decide) _ (fun x hx => y_sliceArr rfl Tryd.underlying23 ow_size5 rfl (.none 0) (.none 32) (by omega) (by omega) slice_to) (fun a hF => ?_)
  refine vp_y hF rfl rfl rfl rfl (by decide) _ (fun x hx => y_move rfl rfl) (fun a hF => ?_)
  refine vp_y hF rfl rfl rfl rfl (by decide) _ (fun x hx => y_field rfl Tryd.underlying25 rfl sz36_t2 (by decide) rfl (rfl : (⟨_, 0 + _, none⟩ : Addr) = ⟨_, 1, none⟩)) (fun a hF => ?_)
  refine vp_y hF rfl rfl rfl rfl (by decide) _ (fun x hx => y_sliceArr rfl Tryd.underlying23 ow_size5 rfl (.none 0) (.none 32) (by omega) (by omega) slice_to) (fun a hF => ?_)
  refine vp_l rfl rfl rfl (fun K hK => ws_call hF rfl (by decide) cl72_t2 rfl rfl ?_)
  with_reducible refine (ow_all w _ g [(b6, 23, dc (List.replicate 32 0)), (b5, 25, (.int .i64 C :: dc Y)), (b4, 23, dc X)] X5 v5 _ hW5.drew (by simp [be])).mono ?_
  rintro e' w6 ⟨v6, Y6, rfl, hO6, hA6⟩
  refine ⟨_, rfl, fun a hF => hK _ _ (fun _ => trivial) ?_⟩; clear hK K
  obtain ⟨_, A6, c6, rfl, hc6, hB6⟩ := own_parts hO6
  have hO6n := hO6.new
  have hX5 := hW5.1.new
  refine vp_l rfl rfl rfl (fun K hK => ws_bs3 hF rfl (by decide) rfl hA6 rfl rfl rfl (tb_part3 _ _ _ _ _ _ _ _ _) (fun b7 w7 a hb7 hF hA7 => hK _ _ (fun _ => trivial) ?_))
  clear hK K
  have hnr : ∀ r ∈ ((b7, 59, [.slice (some ⟨b4, 0, none⟩) 32 32, .slice A6 (be 8 (c64 C)).length c6, .slice (some ⟨b5, 1, none⟩) 32 32]) : Row) :: ([(g, 160, [v5])] ++ [(b6, 23, dc (List.replicate 32 0)), (b5, 25, (.int .i64 C :: dc Y)), (b4, 23, dc X)] ++ X5 ++ Y6), w.heap.size ≤ r.1 := cons_new (by have := hA6.size; omega) (all_new (all_new (all_new (one_new qg) (cons_new q6 (cons_new q5 (one_new hb4)))) hX5) hO6n)
  have hP : Pieces w7 (some ⟨b7, 0, none⟩) [(some ⟨b4, 0, none⟩, 32, X), (A6, c6, be 8 (c64 C)), (some ⟨b5, 1, none⟩, 32, Y)] := Pieces.row hA7 (k := 0) (by rw [List.map_cons, List.map_cons, List.map_cons, hX, hY]; rfl) (fun A' c' l' h => by
    rcases List.mem_cons.1 h with h | h
    · obtain ⟨rfl, rfl, rfl⟩ : A' = some ⟨b4, 0, none⟩ ∧ c' = 32 ∧ l' = X := by simpa using h
      exact ⟨by omega, tb_arr hX hA7 (k := 4) rfl⟩
    · rcases List.mem_cons.1 h with h | h
      · obtain ⟨rfl, rfl, rfl⟩ : A' = A6 ∧ c' = c6 ∧ l' = be 8 (c64 C) := by simpa using h
        exact ⟨hc6, hB6 ((b7, 59, [.slice (some ⟨b4, 0, none⟩) 32 32, .slice A' (be 8 (c64 C)).length c', .slice (some ⟨b5, 1, none⟩) 32 32]) :: ([(g, 160, [v5])] ++ [(b6, 23, dc (List.replicate 32 0)), (b5, 25, (.int .i64 C :: dc Y)), (b4, 23, dc X)] ++ X5)) w7 hA7⟩
      · obtain ⟨rfl, rfl, rfl⟩ : A' = some ⟨b5, 1, none⟩ ∧ c' = 32 ∧ l' = Y := by simpa using h
        exact ⟨by omega, Bts.row hA7 (k := 3) rfl (by rw [List.drop_succ_cons, List.drop_zero]; exact List.take_of_length_le (by rw [dc_length]; exact Nat.le_refl _))⟩)
  refine vp_l rfl rfl rfl (fun K hK => ws_call hF rfl (by decide) cl51_t2 rfl rfl ?_)
  with_reducible refine (of_all w7 width 3 3 rfl (some ⟨b7, 0, none⟩) _ 3 3 rfl hP (by rw [flat_three, List.length_append, List.length_append, hX, hY]; simp [be]) (by decide) (hT.at_ hA7 (not0w hpos hnr))).mono ?_
  rintro e' w8 ⟨rfl, hc8⟩
  refine ⟨_, rfl, fun a hF => hK _ _ (fun h => absurd h (by decide)) ?_⟩; clear hK K
  have hA8 := hA7.then0 hc8
  clear hc8
  rw [flat_three] at hF
  refine vp_l rfl rfl rfl (fun K hK => ws_storeAll hF rfl rfl hA8 rfl rfl 2 rfl (tb_z (ofL_length _ _ _)) (dc_one _) tb_s (fun w9 hA9 => hK _ _ (fun h => absurd h (by decide)) ?_))
  clear hK K
  refine plan_end ?_
  refine hK4 _ _ ?_; clear  hK4 K4
  apply wp_ret
  refine vc_retc hF Tryd.results83 hA9 rfl 2 rfl (tb_row36 (ofL_length _ _ _)) ?_
  exact ⟨rfl, hA9.clear (cons_new (hnr _ (List.mem_cons_self ..)) (cons_new qg (cons_new (show w.heap.size ≤ b6 from q6) (cons_new q5 (cons_new hb4 (all_new hX5 hO6n))))))⟩

theorem within_key (n m : Int) (hm : 0 < m) : -m < n.tmod m ∧ n.tmod m < m ∧ n.emod m = if n.tmod m < 0 then n.tmod m + m else n.tmod m := by
  have h1 := Int.tmod_lt_of_pos n hm
  have h2 := Int.emod_nonneg n (show m ≠ 0 by omega)
  have h3 := Int.emod_lt_of_pos n hm
  have h4 := Int.mul_tdiv_add_tmod n m
  have h5 := Int.mul_ediv_add_emod n m
  have h6 : -m < n.tmod m := by
    have := Int.tmod_lt_of_pos (-n) hm
    rw [Int.neg_tmod] at this
    omega
  refine ⟨h6, h1, ?_⟩
  have h7 : m * (n / m - n.tdiv m) = n.tmod m - n.emod m := by
    rw [Int.mul_sub]
    have : n.emod m = n % m := rfl
    rw [this]
    omega
  have h8 : n.emod m = n % m := rfl
  split
  · have h9 : n / m - n.tdiv m = -1 := by
      have a1 : m * (n / m - n.tdiv m) < 0 := by omega
      have a2 : -(2 * m) < m * (n / m - n.tdiv m) := by omega
      have a3 : n / m - n.tdiv m < 0 := by
        rcases Int.lt_or_le (n / m - n.tdiv m) 0 with h | h
        · exact h
        · have := Int.mul_nonneg (Int.le_of_lt hm) h; omega
      have a4 : -2 < n / m - n.tdiv m := by
        rcases Int.lt_or_le (-2) (n / m - n.tdiv m) with h | h
        · exact h
        · have := Int.mul_le_mul_of_nonneg_left h (Int.le_of_lt hm); omega
      omega
    rw [h9] at h7
    omega
  · have h9 : n / m - n.tdiv m = 0 := by
      have a1 : -m < m * (n / m - n.tdiv m) := by omega
      have a2 : m * (n / m - n.tdiv m) < m := by omega
      have a3 : n / m - n.tdiv m < 1 := by
        rcases Int.lt_or_le (n / m - n.tdiv m) 1 with h | h
        · exact h
        · have := Int.mul_le_mul_of_nonneg_left h (Int.le_of_lt hm); omega
      have a4 : -1 < n / m - n.tdiv m := by
        rcases Int.lt_or_le (-1) (n / m - n.tdiv m) with h | h
        · exact h
        · have := Int.mul_le_mul_of_nonneg_left h (Int.le_of_lt hm); omega
      omega
    rw [h9] at h7
    omega
set_option maxRecDepth 100000 in
set_option maxHeartbeats 1000000 in
theorem within_any (w : World) (n lo hi : Int) (h0 : 0 ≤ lo) (h1 : lo ≤ hi) (h2 : hi < 2305843009213693952) :
    Calls Tryd.prog 36 #[.int .i64 n, .int .i64 lo, .int .i64 hi] w fun e w' => e = .returned (.int .i64 (withinI n lo hi)) ∧ w = w' := by
  obtain ⟨k1, k2, k3⟩ := within_key n (hi - lo + 1) (by omega)
  have k4 : withinI n lo hi = lo + n.emod (hi - lo + 1) := rfl
  generalize hq : n.tmod (hi - lo + 1) = q at *
  refine vc_enter Tryd.func36 rfl Tryd.ntmps36 (Nat.le_of_ble_eq_true rfl) (fun a hF => ?_)
  apply wp_seq_k; intro K1 hK1
  refine wp_region_lit ?_
  refine vc_y hF rfl rfl (by decide) _ (y_assign rfl rfl) (fun a hF => ?_)
  refine vc_nil ?_
  refine hK1 _ _ ?_; clear  hK1 K1
  apply wp_seq_k; intro K2 hK2
  refine wp_region_lit ?_
  refine vc_y hF rfl rfl (by decide) _ (y_move rfl rfl) (fun a hF => ?_)
  refine vc_y hF rfl rfl (by decide) _ (y_move rfl rfl) (fun a hF => ?_)
  refine vc_y hF rfl rfl (by decide) _ (y_move rfl rfl) (fun a hF => ?_)
  refine vc_y hF rfl rfl (by decide) _ (y_sub rfl rfl rfl (IntWalk.i64_in _ (by omega))) (fun a hF => ?_)
  refine vc_y hF rfl rfl (by decide) _ (y_add rfl rfl rfl (IntWalk.i64_in _ (by omega))) (fun a hF => ?_)
  refine vc_y hF rfl rfl (by decide) _ (y_rem rfl rfl rfl (by omega) hq) (fun a hF => ?_)
  refine vc_y hF rfl rfl (by decide) _ (y_assign rfl rfl) (fun a hF => ?_)
  refine vc_nil ?_
  refine hK2 _ _ ?_; clear  hK2 K2
  apply wp_seq_k; intro K3 hK3
  apply wp_seq_k; intro K4 hK4
  refine wp_region_lit ?_
  refine vc_y hF rfl rfl (by decide) _ (y_move rfl rfl) (fun a hF => ?_)
  refine vc_y hF rfl rfl (by decide) _ (y_cmp rfl rfl rfl rfl rfl) (fun a hF => ?_)
  refine vc_nil ?_
  refine hK4 _ _ ?_; clear  hK4 K4
  by_cases hneg : q < 0
  · refine vc_trueB hF rfl (lss_t hneg) ?_
    refine wp_region_lit ?_
    refine vc_y hF rfl rfl (by decide) _ (y_move rfl rfl) (fun a hF => ?_)
    refine vc_y hF rfl rfl (by decide) _ (y_move rfl rfl) (fun a hF => ?_)
    refine vc_y hF rfl rfl (by decide) _ (y_add rfl rfl rfl (IntWalk.i64_in _ (by omega))) (fun a hF => ?_)
    refine vc_y hF rfl rfl (by decide) _ (y_move rfl rfl) (fun a hF => ?_)
    refine vc_y hF rfl rfl (by decide) _ (y_sub rfl rfl rfl (IntWalk.i64_in _ (by omega))) (fun a hF => ?_)
    refine vc_y hF rfl rfl (by decide) _ (y_add rfl rfl rfl (IntWalk.i64_in _ (by omega))) (fun a hF => ?_)
    refine vc_y hF rfl rfl (by decide) _ (y_assign rfl rfl) (fun a hF => ?_)
    refine vc_nil ?_
    refine hK3 _ _ ?_; clear  hK3 K3
    apply wp_seq_k; intro K5 hK5
    refine wp_region_lit ?_
    refine vc_y hF rfl rfl (by decide) _ (y_move rfl rfl) (fun a hF => ?_)
    refine vc_y hF rfl rfl (by decide) _ (y_move rfl rfl) (fun a hF => ?_)
    refine vc_y hF rfl rfl (by decide) _ (y_add rfl rfl rfl (show IntKind.i64.wrap _ = withinI n lo hi by rw [IntWalk.i64_in _ (by omega), k4, k3]; first | rw [if_pos hneg]; omega | rw [if_neg hneg])) (fun a hF => ?_)
    refine vc_y hF rfl rfl (by decide) _ (y_assign rfl rfl) (fun a hF => ?_)
    refine vc_nil ?_
    refine hK5 _ _ ?_; clear  hK5 K5
    apply wp_ret
    refine vc_ret1 hF Tryd.results36 rfl ?_
    exact ⟨rfl, rfl⟩
  · refine vc_falseB hF rfl (lss_f (by omega)) ?_
    apply wp_skip
    refine hK3 _ _ ?_; clear  hK3 K3
    apply wp_seq_k; intro K6 hK6
    refine wp_region_lit ?_
    refine vc_y hF rfl rfl (by decide) _ (y_move rfl rfl) (fun a hF => ?_)
    refine vc_y hF rfl rfl (by decide) _ (y_move rfl rfl) (fun a hF => ?_)
    refine vc_y hF rfl rfl (by decide) _ (y_add rfl rfl rfl (show IntKind.i64.wrap _ = withinI n lo hi by rw [IntWalk.i64_in _ (by omega), k4, k3]; first | rw [if_pos hneg]; omega | rw [if_neg hneg])) (fun a hF => ?_)
    refine vc_y hF rfl rfl (by decide) _ (y_assign rfl rfl) (fun a hF => ?_)
    refine vc_nil ?_
    refine hK6 _ _ ?_; clear  hK6 K6
    apply wp_ret
    refine vc_ret1 hF Tryd.results36 rfl ?_
    exact ⟨rfl, rfl⟩

end Go.Proofs.YtpomngkcfbnjoaaDoor
