/- The walk of DigestTable. -/
import Derived.Test.YtppmhlkonemebaaDoorTt
import Derived.Test.YtppmhlkonemebaaDoorLawClash
namespace Go.Proofs.YtppmhlkonemebaaDoor
open Go.RowKit Go.Dk
theorem nr3_tl : notRow Tryd.prog 3 = true := by kernel_rfl
theorem nr24_tl : notRow Tryd.prog 24 = true := by kernel_rfl
theorem nr29_tl : notRow Tryd.prog 29 = true := by kernel_rfl
theorem rw36_tl : isRow Tryd.prog 36 32 = true := by kernel_rfl
theorem rw66_tl : isRow Tryd.prog 66 33 = true := by kernel_rfl
theorem sz3_tl : (Tryd.prog.info? 3).map (·.size) = some 1 := by kernel_rfl
theorem sz5_tl : (Tryd.prog.info? 5).map (·.size) = some 1 := by kernel_rfl
theorem sz24_tl : (Tryd.prog.info? 24).map (·.size) = some 1 := by kernel_rfl
theorem sz29_tl : (Tryd.prog.info? 29).map (·.size) = some 1 := by kernel_rfl
theorem sz36_tl : (Tryd.prog.info? 36).map (·.size) = some 32 := by kernel_rfl
theorem sz66_tl : (Tryd.prog.info? 66).map (·.size) = some 33 := by kernel_rfl
theorem cl12_tl : CallsTo Tryd.prog 12 := ⟨_, Tryd.func12, by kernel_rfl, by kernel_rfl⟩
theorem cl20_tl : CallsTo Tryd.prog 20 := ⟨_, Tryd.func20, by kernel_rfl, by kernel_rfl⟩
theorem cl22_tl : CallsTo Tryd.prog 22 := ⟨_, Tryd.func22, by kernel_rfl, by kernel_rfl⟩
theorem cl23_tl : CallsTo Tryd.prog 23 := ⟨_, Tryd.func23, by kernel_rfl, by kernel_rfl⟩
theorem cl27_tl : CallsTo Tryd.prog 27 := ⟨_, Tryd.func27, by kernel_rfl, by kernel_rfl⟩
theorem cl30_tl : CallsTo Tryd.prog 30 := ⟨_, Tryd.func30, by kernel_rfl, by kernel_rfl⟩
theorem cl31_tl : CallsTo Tryd.prog 31 := ⟨_, Tryd.func31, by kernel_rfl, by kernel_rfl⟩
theorem cl32_tl : CallsTo Tryd.prog 32 := ⟨_, Tryd.func32, by kernel_rfl, by kernel_rfl⟩
theorem cl33_tl : CallsTo Tryd.prog 33 := ⟨_, Tryd.func33, by kernel_rfl, by kernel_rfl⟩
theorem cl34_tl : CallsTo Tryd.prog 34 := ⟨_, Tryd.func34, by kernel_rfl, by kernel_rfl⟩
theorem cl35_tl : CallsTo Tryd.prog 35 := ⟨_, Tryd.func35, by kernel_rfl, by kernel_rfl⟩
theorem cl36_tl : CallsTo Tryd.prog 36 := ⟨_, Tryd.func36, by kernel_rfl, by kernel_rfl⟩
theorem cl37_tl : CallsTo Tryd.prog 37 := ⟨_, Tryd.func37, by kernel_rfl, by kernel_rfl⟩
theorem cl38_tl : CallsTo Tryd.prog 38 := ⟨_, Tryd.func38, by kernel_rfl, by kernel_rfl⟩
theorem cl39_tl : CallsTo Tryd.prog 39 := ⟨_, Tryd.func39, by kernel_rfl, by kernel_rfl⟩
theorem cl40_tl : CallsTo Tryd.prog 40 := ⟨_, Tryd.func40, by kernel_rfl, by kernel_rfl⟩
theorem cl41_tl : CallsTo Tryd.prog 41 := ⟨_, Tryd.func41, by kernel_rfl, by kernel_rfl⟩
theorem cl42_tl : CallsTo Tryd.prog 42 := ⟨_, Tryd.func42, by kernel_rfl, by kernel_rfl⟩
theorem cl43_tl : CallsTo Tryd.prog 43 := ⟨_, Tryd.func43, by kernel_rfl, by kernel_rfl⟩
theorem cl44_tl : CallsTo Tryd.prog 44 := ⟨_, Tryd.func44, by kernel_rfl, by kernel_rfl⟩
theorem cl45_tl : CallsTo Tryd.prog 45 := ⟨_, Tryd.func45, by kernel_rfl, by kernel_rfl⟩
theorem cl46_tl : CallsTo Tryd.prog 46 := ⟨_, Tryd.func46, by kernel_rfl, by kernel_rfl⟩
theorem cl47_tl : CallsTo Tryd.prog 47 := ⟨_, Tryd.func47, by kernel_rfl, by kernel_rfl⟩
theorem cl48_tl : CallsTo Tryd.prog 48 := ⟨_, Tryd.func48, by kernel_rfl, by kernel_rfl⟩
theorem cl49_tl : CallsTo Tryd.prog 49 := ⟨_, Tryd.func49, by kernel_rfl, by kernel_rfl⟩
theorem cl50_tl : CallsTo Tryd.prog 50 := ⟨_, Tryd.func50, by kernel_rfl, by kernel_rfl⟩
theorem cl51_tl : CallsTo Tryd.prog 51 := ⟨_, Tryd.func51, by kernel_rfl, by kernel_rfl⟩
theorem cl52_tl : CallsTo Tryd.prog 52 := ⟨_, Tryd.func52, by kernel_rfl, by kernel_rfl⟩

theorem zr66_tl : zeroIs Tryd.prog 66 (.agg ([.int .i64 0, .int .u8 0, .int .u8 0, .int .u8 0, .int .u8 0, .int .u8 0, .int .u8 0, .int .u8 0, .int .u8 0, .int .u8 0, .int .u8 0, .int .u8 0, .int .u8 0, .int .u8 0, .int .u8 0, .int .u8 0, .int .u8 0, .int .u8 0, .int .u8 0, .int .u8 0, .int .u8 0, .int .u8 0, .int .u8 0, .int .u8 0, .int .u8 0, .int .u8 0, .int .u8 0, .int .u8 0, .int .u8 0, .int .u8 0, .int .u8 0, .int .u8 0, .int .u8 0] : List Value).toArray) := by unfold zeroIs; kernel_rfl

theorem pc_Q {w d c h : Int} {X Y : List UInt8} {p q : Value} (hX : X.length = 32) (hY : Y.length = 32) : (PC w d c h X Y p q)[69]? = some q := by
  unfold PC
  rw [List.getElem?_append_right (by simp [dc_length, hX, hY])]
  simp [dc_length, hX, hY]
theorem tl_e0 {Y : List UInt8} {C : Int} (hY : Y.length = 32) : ((Value.int .i64 C :: dc Y).drop 0).take 33 = .int .i64 C :: dc Y := by
  rw [List.drop_zero]; exact List.take_of_length_le (by rw [List.length_cons, dc_length, hY]; exact Nat.le_refl _)
theorem tl_e1 {Y : List UInt8} {C : Int} (hY : Y.length = 32) : 0 + 33 ≤ (Value.int .i64 C :: dc Y).length := by rw [List.length_cons, dc_length, hY]; exact Nat.le_refl _
theorem tl_len {Y : List UInt8} {C : Int} {cs : List Value} (hY : Y.length = 32) (h : cs.length = 33 := by rfl) : (Value.int .i64 C :: dc Y).length = cs.length := by rw [List.length_cons, dc_length, hY, h]
theorem tl_one (C : Int) (Y : List UInt8) : ∀ v ∈ (Value.int .i64 C :: dc Y), v.oneCell' = true := fun v hv => by
  rcases List.mem_cons.1 hv with rfl | hv
  · rfl
  · exact dc_one _ v hv
theorem tl_room (n : Nat) (h : n ≤ 9223372036854775807) : -1 ≤ bkRoomI 2147483647 (n : Int) ∧ bkRoomI 2147483647 (n : Int) ≤ 2147483647 := by unfold bkRoomI; split <;> omega
theorem tl_left {n : Nat} (h : 0 ≤ bkRoomI 2147483647 (n : Int)) : n ≤ 2147483647 := by unfold bkRoomI at h; split at h <;> omega
theorem tl_sum {z r : Int} {s : Nat} (h : 0 ≤ z) (h2 : z = r - s) (h3 : r ≤ 2147483647) : s ≤ 2147483647 := by omega
theorem tl_sums (ps : List Piece) : (ps.map (fun p : Piece => p.2.2.length + 1)).sum = ps.length + (ps.map (·.2.2)).flatten.length := by
  induction ps with
  | nil => rfl
  | cons p ps ih => rw [List.map_cons, List.sum_cons, ih, List.map_cons, List.flatten_cons, List.length_append, List.length_cons]; omega
theorem tl_bound {ps : List Piece} (h : (ps.map (fun p : Piece => p.2.2.length + 1)).sum ≤ 2147483647) : ps.length ≤ 2147483647 ∧ (ps.map (·.2.2)).flatten.length ≤ 2147483647 := by
  rw [tl_sums] at h; omega
theorem tl_grow {n : Nat} (h : n < 2147483648) : (n + 1 + (n + 1) / 4 + 192) * 24 ≤ 281474976710656 := by omega
theorem tl_room2 {w0 : World} {R : List Seg} {g : Nat} {l : List UInt8} (h : [row g 5 (cel cB (l ++ List.replicate 80 165))] ∈ R) : Rd w0 R (some ⟨g, 0, none⟩) l := roomS_rd (e := 5) (q := (g, l)) (fun _ hr => hr) h
theorem tl_flip (TS : List (List UInt8)) : (TS.map (·.map flip)).flatten.length = TS.flatten.length := by
  induction TS with
  | nil => rfl
  | cons t TS ih => rw [List.map_cons, List.flatten_cons, List.length_append, ih, List.flatten_cons, List.length_append, List.length_map]

set_option maxRecDepth 100000 in
set_option maxHeartbeats 8000000 in
theorem law_table (w0 : World) (wd di cn hg : Int) (X Y : List UInt8) (PA : Option Addr) (l : List UInt8) (cp : Nat) (pa : Option Addr) (ps : List Piece) (pc : Nat) (hT : Tab w0) (hX : X.length = 32) (hY : Y.length = 32) (hcp : l.length ≤ cp) (hB : Bts w0 PA l) (hl : cp < 140737488351300) (hP : PcS w0 [] pa ps) (hpl : ∀ p ∈ ps, p.2.2.length < 140737488351300) (hn : ps.length ≤ 9223372036854775807) : Calls Tryd.prog 9 #[.agg (PC wd di cn hg X Y (.slice PA l.length cp) (.slice pa ps.length pc)).toArray] w0 fun e w' => e = .returned (.bool true) ∧ At w0 [] w' := by
  have hA : Hp w0 [] w0 := Hp.start w0
  have hPr : Rc w0 [] pa (ps.map pieceV) := hP.1
  obtain ⟨dom, hdi⟩ := tt_dom di
  refine vc_enter Tryd.func9 rfl Tryd.ntmps9 (Nat.le_of_ble_eq_true rfl) (fun a hF => ?_)
  apply wp_seq_k; intro K1 hK1
  refine wp_region_lit ?_
  refine vc_op rfl (fun K hK => hs_box (cs := PC wd di cn hg X Y (.slice PA l.length cp) (.slice pa ps.length pc)) hF rfl (by decide) rfl hA rfl (fun b1 w2 a hb1 hF hA3 => hK _ _ ?_))
  clear hK K
  replace hA3 : Hp w0 ([row b1 64 (PC wd di cn hg X Y (.slice PA l.length cp) (.slice pa ps.length pc))] :: []) w2 := hA3
  refine vc_y hF rfl rfl (by decide) _ (y_assign rfl rfl) (fun a hF => ?_)
  refine vc_nil ?_
  refine hK1 _ _ ?_; clear  hK1 K1
  apply wp_seq_k; intro K2 hK2
  apply wp_seq_k; intro K3 hK3
  refine wp_region_plan 7 [3,6,7] [0,1,2,4,5,3,6,7] (fun x => Hq w0 ([row b1 64 (PC wd di cn hg X Y (.slice PA l.length cp) (.slice pa ps.length pc))] :: []) x) (by kernel_rfl) (by kernel_rfl) (Hq.drew (Hp.qp [[row b1 64 (PC wd di cn hg X Y (.slice PA l.length cp) (.slice pa ps.length pc))]] [] [0] hA3)) ?_
  have hA4 := Hl.drew hA3
  refine vp_y hF rfl rfl rfl rfl (by decide) _ (fun x hx => y_field rfl Tryd.underlying64 rfl sz24_tl (by decide) rfl (rfl : (⟨_, 0 + _, none⟩ : Addr) = ⟨_, 68, none⟩)) (fun a hF => ?_)
  refine vp_y hF rfl rfl rfl rfl (by decide) _ (fun x hx => y_ld rfl hx rfl 0 rfl (pc_P hX hY) nr24_tl) (fun a hF => ?_)
  refine vp_y hF rfl rfl rfl rfl (by decide) _ (fun x hx => y_lenSl rfl Tryd.underlying24 rfl rfl) (fun a hF => ?_)
  refine vp_y hF rfl rfl rfl rfl (by decide) _ (fun x hx => y_field rfl Tryd.underlying64 rfl sz29_tl (by decide) rfl (rfl : (⟨_, 0 + _, none⟩ : Addr) = ⟨_, 69, none⟩)) (fun a hF => ?_)
  refine vp_y hF rfl rfl rfl rfl (by decide) _ (fun x hx => y_ld rfl hx rfl 0 rfl (pc_Q hX hY) nr29_tl) (fun a hF => ?_)
  refine vp_l rfl rfl rfl (fun K hK => ws_call hF rfl (by decide) cl12_tl rfl rfl ?_)
  with_reducible refine (bk_room w2.drew 2147483647 (l.length : Int) (by decide) (by omega) ).mono ?_
  rintro e' w7 ⟨rfl, rfl⟩
  refine ⟨_, rfl, fun a hF => hK _ _ (fun _ => ?_) ?_⟩
  · exact Hp.qp [[row b1 64 (PC wd di cn hg X Y (.slice PA l.length cp) (.slice pa ps.length pc))]] [] [0] hA4
  clear hK K
  refine vp_l rfl rfl rfl (fun K hK => ws_call hF rfl (by decide) cl23_tl rfl rfl ?_)
  with_reducible refine (bk_lists w0 _ ([row b1 64 (PC wd di cn hg X Y (.slice PA l.length cp) (.slice pa ps.length pc))] :: []) (bkRoomI 2147483647 (l.length : Int)) pa ps pc (hPr.mono (List.nil_subset _)) hA4 (tl_room _ (by omega)) (fun q hq => by have := hpl q hq; omega) hn ).mono ?_
  rintro e' w10 ⟨z, rfl, hz1, hz2, rfl⟩
  refine ⟨_, rfl, fun a hF => hK _ _ (fun _ => ?_) ?_⟩
  · exact Hp.qp [[row b1 64 (PC wd di cn hg X Y (.slice PA l.length cp) (.slice pa ps.length pc))]] [] [0] hA4
  clear hK K
  refine vp_ly hF rfl rfl rfl rfl (by decide) _ (y_cmp rfl rfl rfl rfl rfl) (fun h => absurd h (by decide)) (fun a hF => ?_)
  refine plan_end ?_
  refine hK3 _ _ ?_; clear  hK3 K3
  by_cases hz : z < 0
  · refine vc_trueB hF rfl (lss_t (by omega)) ?_
    apply wp_seq_k; intro K4 hK4
    refine wp_region_lit ?_
    refine vc_y hF rfl rfl (by decide) _ (y_assign rfl rfl) (fun a hF => ?_)
    refine vc_nil ?_
    refine hK4 _ _ ?_; clear  hK4 K4
    apply wp_ret
    simp only [Exit.then]
    refine vc_ret1 hF Tryd.results9 rfl ?_
    exact ⟨rfl, hA4.at0⟩
  · refine vc_falseB hF rfl (lss_f (by omega)) ?_
    have hz0 : 0 ≤ z := by omega
    obtain ⟨hlp, hz3⟩ := hz2 hz0
    have hlp2 : l.length ≤ 2147483647 := tl_left hlp
    have hsum : (ps.map (fun p : Piece => p.2.2.length + 1)).sum ≤ 2147483647 := tl_sum hz0 hz3 (tl_room _ (by omega)).2
    obtain ⟨hpn, hfl0⟩ := tl_bound hsum
    have hR : Rd w0 [] PA l := Rd.old hB
    apply wp_skip
    refine hK2 _ _ ?_; clear  hK2 K2
    apply wp_seq_k; intro K5 hK5
    refine wp_region_lit ?_
    refine vc_y hF rfl rfl (by decide) _ (y_field rfl Tryd.underlying64 rfl sz24_tl (by decide) rfl (rfl : (⟨_, 0 + _, none⟩ : Addr) = ⟨_, 68, none⟩)) (fun a hF => ?_)
    refine vc_y hF rfl rfl (by decide) _ (y_ld rfl hA4.q rfl 0 rfl (pc_P hX hY) nr24_tl) (fun a hF => ?_)
    refine vc_op rfl (fun K hK => ws_call hF rfl (by decide) cl20_tl rfl rfl ?_)
    with_reducible refine (cl_roomyB w0 _ ([row b1 64 (PC wd di cn hg X Y (.slice PA l.length cp) (.slice pa ps.length pc))] :: []) PA l cp (hR.mono (List.nil_subset _)) hA4 (by omega) ).mono ?_
    rintro e' w11 ⟨gP, rfl, hA12⟩
    refine ⟨_, rfl, fun a hF => hK _ _ ?_⟩
    clear hK K
    replace hA12 : Hp w0 ([row gP 5 (cel cB (l ++ List.replicate 80 165))] :: [row b1 64 (PC wd di cn hg X Y (.slice PA l.length cp) (.slice pa ps.length pc))] :: []) w11 := hA12
    refine vc_y hF rfl rfl (by decide) _ (y_assign rfl rfl) (fun a hF => ?_)
    refine vc_nil ?_
    refine hK5 _ _ ?_; clear  hK5 K5
    apply wp_seq_k; intro K6 hK6
    refine wp_region_lit ?_
    refine vc_y hF rfl rfl (by decide) _ (y_move rfl rfl) (fun a hF => ?_)
    refine vc_y hF rfl rfl (by decide) _ (y_field rfl Tryd.underlying64 rfl sz24_tl (by decide) rfl (rfl : (⟨_, 0 + _, none⟩ : Addr) = ⟨_, 68, none⟩)) (fun a hF => ?_)
    refine vc_y hF rfl rfl (by decide) _ (y_ld rfl hA12.q rfl 1 rfl (pc_P hX hY) nr24_tl) (fun a hF => ?_)
    refine vc_y hF rfl rfl (by decide) _ (y_lenSl rfl Tryd.underlying24 rfl rfl) (fun a hF => ?_)
    refine vc_y hF rfl rfl (by decide) _ (y_slice rfl Tryd.underlying24 kb_sz_byte rfl (.none 0) (.some rfl rfl) (Nat.zero_le _) (by omega) slice_to) (fun a hF => ?_)
    refine vc_y hF rfl rfl (by decide) _ (y_assign rfl rfl) (fun a hF => ?_)
    refine vc_nil ?_
    refine hK6 _ _ ?_; clear  hK6 K6
    apply wp_seq_k; intro K7 hK7
    refine wp_region_lit ?_
    refine vc_y hF rfl rfl (by decide) _ (y_field rfl Tryd.underlying64 rfl sz3_tl (by decide) rfl (rfl : (⟨_, 0 + _, none⟩ : Addr) = ⟨_, 2, none⟩)) (fun a hF => ?_)
    refine vc_y hF rfl rfl (by decide) _ (y_ld rfl hA12.q rfl 1 rfl rfl nr3_tl) (fun a hF => ?_)
    refine vc_y hF rfl rfl (by decide) _ (y_field rfl Tryd.underlying64 rfl sz36_tl (by decide) rfl (rfl : (⟨_, 0 + _, none⟩ : Addr) = ⟨_, 36, none⟩)) (fun a hF => ?_)
    refine vc_y hF rfl rfl (by decide) _ (y_ldRow rfl hA12.q rfl 1 rfl rw36_tl (by rw [pc_len hX hY]; decide) (pc_B hX hY)) (fun a hF => ?_)
    refine vc_y hF rfl rfl (by decide) _ (y_build (qs := #[(0, .int .i64 cn), (1, .agg (dc Y).toArray)]) rfl rfl (tb_build66_at hY cn)) (fun a hF => ?_)
    refine vc_op rfl (fun K hK => hs_alloc hF rfl (by decide) rfl hA12 (zr66_tl) (fun b13 w14 a hb13 hF hA15 => hK _ _ ?_))
    clear hK K
    replace hA15 : Hp w0 ([row b13 66 [.int .i64 0, .int .u8 0, .int .u8 0, .int .u8 0, .int .u8 0, .int .u8 0, .int .u8 0, .int .u8 0, .int .u8 0, .int .u8 0, .int .u8 0, .int .u8 0, .int .u8 0, .int .u8 0, .int .u8 0, .int .u8 0, .int .u8 0, .int .u8 0, .int .u8 0, .int .u8 0, .int .u8 0, .int .u8 0, .int .u8 0, .int .u8 0, .int .u8 0, .int .u8 0, .int .u8 0, .int .u8 0, .int .u8 0, .int .u8 0, .int .u8 0, .int .u8 0, .int .u8 0]] :: [row gP 5 (cel cB (l ++ List.replicate 80 165))] :: [row b1 64 (PC wd di cn hg X Y (.slice PA l.length cp) (.slice pa ps.length pc))] :: []) w14 := hA15
    refine vc_op rfl (fun K hK => hs_storeAll (new := .int .i64 cn :: dc Y) hF rfl rfl hA15 rfl rfl 0 rfl (tl_len hY) (tl_one cn Y) sz66_tl (fun w16 hA17 => hK _ _ ?_))
    clear hK K
    replace hA17 : Hp w0 ([row b13 66 (.int .i64 cn :: dc Y)] :: [row gP 5 (cel cB (l ++ List.replicate 80 165))] :: [row b1 64 (PC wd di cn hg X Y (.slice PA l.length cp) (.slice pa ps.length pc))] :: []) w16 := hA17
    refine vc_nil ?_
    refine hK7 _ _ ?_; clear  hK7 K7
    apply wp_seq_k; intro K8 hK8
    refine wp_region_lit ?_
    refine vc_y hF rfl rfl (by decide) _ (y_field rfl Tryd.underlying64 rfl sz3_tl (by decide) rfl (rfl : (⟨_, 0 + _, none⟩ : Addr) = ⟨_, 0, none⟩)) (fun a hF => ?_)
    refine vc_y hF rfl rfl (by decide) _ (y_ld rfl hA17.q rfl 2 rfl rfl nr3_tl) (fun a hF => ?_)
    refine vc_y hF rfl rfl (by decide) _ (y_assign rfl rfl) (fun a hF => ?_)
    refine vc_nil ?_
    refine hK8 _ _ ?_; clear  hK8 K8
    apply wp_seq_k; intro K9 hK9
    apply wp_seq_k; intro K10 hK10
    refine wp_region_plan 29 [2,6,14,20,25,27,29] [0,1,3,4,5,2,6,7,8,9,10,11,12,13,15,16,17,18,19,14,20,21,22,23,24,26,25,27,28,29] (fun x => Hq w0 ([row b13 66 (.int .i64 cn :: dc Y)] :: [row gP 5 (cel cB (l ++ List.replicate 80 165))] :: [row b1 64 (PC wd di cn hg X Y (.slice PA l.length cp) (.slice pa ps.length pc))] :: []) x) (by kernel_rfl) (by kernel_rfl) (Hq.drew (Hp.qp [[row b13 66 (.int .i64 cn :: dc Y)], [row gP 5 (cel cB (l ++ List.replicate 80 165))], [row b1 64 (PC wd di cn hg X Y (.slice PA l.length cp) (.slice pa ps.length pc))]] [] [0, 1, 2] hA17)) ?_
    have hA18 := Hl.drew hA17
    refine vp_y hF rfl rfl rfl rfl (by decide) _ (fun x hx => y_move rfl rfl) (fun a hF => ?_)
    refine vp_y hF rfl rfl rfl rfl (by decide) _ (fun x hx => y_move rfl rfl) (fun a hF => ?_)
    refine vp_y hF rfl rfl rfl rfl (by decide) _ (fun x hx => y_move rfl rfl) (fun a hF => ?_)
    refine vp_y hF rfl rfl rfl rfl (by decide) _ (fun x hx => y_field rfl Tryd.underlying64 rfl sz24_tl (by decide) rfl (rfl : (⟨_, 0 + _, none⟩ : Addr) = ⟨_, 68, none⟩)) (fun a hF => ?_)
    refine vp_y hF rfl rfl rfl rfl (by decide) _ (fun x hx => y_ld rfl hx rfl 2 rfl (pc_P hX hY) nr24_tl) (fun a hF => ?_)
    refine vp_l rfl rfl rfl (fun K hK => ws_call hF rfl (by decide) cl33_tl rfl rfl ?_)
    with_reducible refine (tt_leaf w0 _ ([row b13 66 (.int .i64 cn :: dc Y)] :: [row gP 5 (cel cB (l ++ List.replicate 80 165))] :: [row b1 64 (PC wd di cn hg X Y (.slice PA l.length cp) (.slice pa ps.length pc))] :: []) _ (List.Subset.refl _) wd _ l _ hT (tl_room2 (List.mem_cons_of_mem _ ((List.mem_cons_self ..)))) (by omega) (by omega) hA18 ).mono ?_
    rintro e' w19 ⟨rfl, hA20⟩
    refine ⟨_, rfl, fun a hF => hK _ _ (fun _ => ?_) ?_⟩
    · exact Hp.qp [[row b13 66 (.int .i64 cn :: dc Y)], [row gP 5 (cel cB (l ++ List.replicate 80 165))], [row b1 64 (PC wd di cn hg X Y (.slice PA l.length cp) (.slice pa ps.length pc))]] [] [0, 1, 2] hA20
    clear hK K
    replace hA20 : Hp w0 ([row b13 66 (.int .i64 cn :: dc Y)] :: [row gP 5 (cel cB (l ++ List.replicate 80 165))] :: [row b1 64 (PC wd di cn hg X Y (.slice PA l.length cp) (.slice pa ps.length pc))] :: []) w19 := hA20
    refine vp_l rfl rfl rfl (fun K hK => ws_call hF rfl (by decide) cl35_tl rfl rfl ?_)
    with_reducible refine (tt_rleaf w0 _ ([row b13 66 (.int .i64 cn :: dc Y)] :: [row gP 5 (cel cB (l ++ List.replicate 80 165))] :: [row b1 64 (PC wd di cn hg X Y (.slice PA l.length cp) (.slice pa ps.length pc))] :: []) _ (List.Subset.refl _) wd PA l cp (hR.mono (List.nil_subset _)) hcp (by omega) hA20 ).mono ?_
    rintro e' w21 ⟨rfl, hA22⟩
    refine ⟨_, rfl, fun a hF => hK _ _ (fun _ => ?_) ?_⟩
    · exact Hp.qp [[row b13 66 (.int .i64 cn :: dc Y)], [row gP 5 (cel cB (l ++ List.replicate 80 165))], [row b1 64 (PC wd di cn hg X Y (.slice PA l.length cp) (.slice pa ps.length pc))]] [] [0, 1, 2] hA22
    clear hK K
    replace hA22 : Hp w0 ([row b13 66 (.int .i64 cn :: dc Y)] :: [row gP 5 (cel cB (l ++ List.replicate 80 165))] :: [row b1 64 (PC wd di cn hg X Y (.slice PA l.length cp) (.slice pa ps.length pc))] :: []) w21 := hA22
    refine vp_y hF rfl rfl rfl rfl (by decide) _ (fun x hx => y_neB (c := false) rfl Tryd.underlying36 Tryd.underlying5 sz5_tl (by kernel_rfl) rfl rfl (ofL_length _ _ _) (ofL_length _ _ _) (by simp)) (fun a hF => ?_)
    refine vp_y hF rfl rfl rfl rfl (by decide) _ (fun x hx => y_move rfl rfl) (fun a hF => ?_)
    refine vp_yg hF rfl rfl rfl rfl rfl rfl rfl (by decide) _ (fun x hx => y_move rfl rfl) (fun a hF => ?_)
    refine vp_yg hF rfl rfl rfl rfl rfl rfl rfl (by decide) _ (fun x hx => y_field rfl Tryd.underlying64 rfl sz36_tl (by decide) rfl (rfl : (⟨_, 0 + _, none⟩ : Addr) = ⟨_, 4, none⟩)) (fun a hF => ?_)
    refine vp_yg hF rfl rfl rfl rfl rfl rfl rfl (by decide) _ (fun x hx => y_ldRow rfl hx rfl 2 rfl rw36_tl (by rw [pc_len hX hY]; decide) (pc_A hX)) (fun a hF => ?_)
    refine vp_yg hF rfl rfl rfl rfl rfl rfl rfl (by decide) _ (fun x hx => y_field rfl Tryd.underlying64 rfl sz36_tl (by decide) rfl (rfl : (⟨_, 0 + _, none⟩ : Addr) = ⟨_, 36, none⟩)) (fun a hF => ?_)
    refine vp_yg hF rfl rfl rfl rfl rfl rfl rfl (by decide) _ (fun x hx => y_ldRow rfl hx rfl 2 rfl rw36_tl (by rw [pc_len hX hY]; decide) (pc_B hX hY)) (fun a hF => ?_)
    refine vp_yg hF rfl rfl rfl rfl rfl rfl rfl (by decide) _ (fun x hx => y_move rfl rfl) (fun a hF => ?_)
    refine vp_yg hF rfl rfl rfl rfl rfl rfl rfl (by decide) _ (fun x hx => y_field rfl Tryd.underlying64 rfl sz36_tl (by decide) rfl (rfl : (⟨_, 0 + _, none⟩ : Addr) = ⟨_, 4, none⟩)) (fun a hF => ?_)
    refine vp_yg hF rfl rfl rfl rfl rfl rfl rfl (by decide) _ (fun x hx => y_ldRow rfl hx rfl 2 rfl rw36_tl (by rw [pc_len hX hY]; decide) (pc_A hX)) (fun a hF => ?_)
    refine vp_yg hF rfl rfl rfl rfl rfl rfl rfl (by decide) _ (fun x hx => y_field rfl Tryd.underlying64 rfl sz36_tl (by decide) rfl (rfl : (⟨_, 0 + _, none⟩ : Addr) = ⟨_, 36, none⟩)) (fun a hF => ?_)
    refine vp_yg hF rfl rfl rfl rfl rfl rfl rfl (by decide) _ (fun x hx => y_ldRow rfl hx rfl 2 rfl rw36_tl (by rw [pc_len hX hY]; decide) (pc_B hX hY)) (fun a hF => ?_)
    refine vp_lg hF rfl rfl rfl rfl rfl rfl (fun K hK => ws_call hF rfl (by decide) cl36_tl rfl rfl ?_)
    with_reducible refine (tt_node w0 _ ([row b13 66 (.int .i64 cn :: dc Y)] :: [row gP 5 (cel cB (l ++ List.replicate 80 165))] :: [row b1 64 (PC wd di cn hg X Y (.slice PA l.length cp) (.slice pa ps.length pc))] :: []) wd X Y hX hY hT hA22 ).mono ?_
    rintro e' w23 ⟨rfl, hA24⟩
    refine ⟨_, rfl, fun a hF => hK _ _ (fun _ => ?_) ?_⟩
    · exact Hp.qp [[row b13 66 (.int .i64 cn :: dc Y)], [row gP 5 (cel cB (l ++ List.replicate 80 165))], [row b1 64 (PC wd di cn hg X Y (.slice PA l.length cp) (.slice pa ps.length pc))]] [] [0, 1, 2] hA24
    clear hK K
    replace hA24 : Hp w0 ([row b13 66 (.int .i64 cn :: dc Y)] :: [row gP 5 (cel cB (l ++ List.replicate 80 165))] :: [row b1 64 (PC wd di cn hg X Y (.slice PA l.length cp) (.slice pa ps.length pc))] :: []) w23 := hA24
    refine vp_lg hF rfl rfl rfl rfl rfl rfl (fun K hK => ws_call hF rfl (by decide) cl37_tl rfl rfl ?_)
    with_reducible refine (tt_rnode w0 _ ([row b13 66 (.int .i64 cn :: dc Y)] :: [row gP 5 (cel cB (l ++ List.replicate 80 165))] :: [row b1 64 (PC wd di cn hg X Y (.slice PA l.length cp) (.slice pa ps.length pc))] :: []) wd X Y hX hY hA24 ).mono ?_
    rintro e' w25 ⟨rfl, hA26⟩
    refine ⟨_, rfl, fun a hF => hK _ _ (fun _ => ?_) ?_⟩
    · exact Hp.qp [[row b13 66 (.int .i64 cn :: dc Y)], [row gP 5 (cel cB (l ++ List.replicate 80 165))], [row b1 64 (PC wd di cn hg X Y (.slice PA l.length cp) (.slice pa ps.length pc))]] [] [0, 1, 2] hA26
    clear hK K
    replace hA26 : Hp w0 ([row b13 66 (.int .i64 cn :: dc Y)] :: [row gP 5 (cel cB (l ++ List.replicate 80 165))] :: [row b1 64 (PC wd di cn hg X Y (.slice PA l.length cp) (.slice pa ps.length pc))] :: []) w25 := hA26
    refine vp_yg hF rfl rfl rfl rfl rfl rfl rfl (by decide) _ (fun x hx => y_neB (c := false) rfl Tryd.underlying36 Tryd.underlying5 sz5_tl (by kernel_rfl) rfl rfl (ofL_length _ _ _) (ofL_length _ _ _) (by simp)) (fun a hF => ?_)
    refine vp_y hF rfl rfl rfl rfl (by decide) _ (fun x hx => y_pick rfl rfl rfl) (fun a hF => ?_)
    refine vp_y hF rfl rfl rfl rfl (by decide) _ (fun x hx => y_move rfl rfl) (fun a hF => ?_)
    refine vp_yg hF rfl rfl rfl rfl rfl rfl rfl (by decide) _ (fun x hx => y_move rfl rfl) (fun a hF => ?_)
    refine vp_yg hF rfl rfl rfl rfl rfl rfl rfl (by decide) _ (fun x hx => y_move rfl rfl) (fun a hF => ?_)
    refine vp_lg hF rfl rfl rfl rfl rfl rfl (fun K hK => ws_call hF rfl (by decide) cl38_tl rfl rfl ?_)
    with_reducible refine (tt_nothing w0 _ ([row b13 66 (.int .i64 cn :: dc Y)] :: [row gP 5 (cel cB (l ++ List.replicate 80 165))] :: [row b1 64 (PC wd di cn hg X Y (.slice PA l.length cp) (.slice pa ps.length pc))] :: []) wd hT hA26 ).mono ?_
    rintro e' w27 ⟨rfl, hA28⟩
    refine ⟨_, rfl, fun a hF => hK _ _ (fun _ => ?_) ?_⟩
    · exact Hp.qp [[row b13 66 (.int .i64 cn :: dc Y)], [row gP 5 (cel cB (l ++ List.replicate 80 165))], [row b1 64 (PC wd di cn hg X Y (.slice PA l.length cp) (.slice pa ps.length pc))]] [] [0, 1, 2] hA28
    clear hK K
    replace hA28 : Hp w0 ([row b13 66 (.int .i64 cn :: dc Y)] :: [row gP 5 (cel cB (l ++ List.replicate 80 165))] :: [row b1 64 (PC wd di cn hg X Y (.slice PA l.length cp) (.slice pa ps.length pc))] :: []) w27 := hA28
    refine vp_lg hF rfl rfl rfl rfl rfl rfl (fun K hK => ws_call hF rfl (by decide) cl39_tl rfl rfl ?_)
    with_reducible refine (tt_rnothing w0 _ ([row b13 66 (.int .i64 cn :: dc Y)] :: [row gP 5 (cel cB (l ++ List.replicate 80 165))] :: [row b1 64 (PC wd di cn hg X Y (.slice PA l.length cp) (.slice pa ps.length pc))] :: []) wd hA28 ).mono ?_
    rintro e' w29 ⟨rfl, hA30⟩
    refine ⟨_, rfl, fun a hF => hK _ _ (fun _ => ?_) ?_⟩
    · exact Hp.qp [[row b13 66 (.int .i64 cn :: dc Y)], [row gP 5 (cel cB (l ++ List.replicate 80 165))], [row b1 64 (PC wd di cn hg X Y (.slice PA l.length cp) (.slice pa ps.length pc))]] [] [0, 1, 2] hA30
    clear hK K
    replace hA30 : Hp w0 ([row b13 66 (.int .i64 cn :: dc Y)] :: [row gP 5 (cel cB (l ++ List.replicate 80 165))] :: [row b1 64 (PC wd di cn hg X Y (.slice PA l.length cp) (.slice pa ps.length pc))] :: []) w29 := hA30
    refine vp_yg hF rfl rfl rfl rfl rfl rfl rfl (by decide) _ (fun x hx => y_neB (c := false) rfl Tryd.underlying36 Tryd.underlying5 sz5_tl (by kernel_rfl) rfl rfl (cutL_length _ _ (sha_length _)) (cutL_length _ _ (sha_length _)) (by simp)) (fun a hF => ?_)
    refine vp_ly hF rfl rfl rfl rfl (by decide) _ (y_pick rfl rfl rfl) (fun h => absurd h (by decide)) (fun a hF => ?_)
    refine plan_end ?_
    refine hK10 _ _ ?_; clear  hK10 K10
    refine vc_false hF rfl ?_
    apply wp_skip
    refine hK9 _ _ ?_; clear  hK9 K9
    apply wp_seq_k; intro K11 hK11
    apply wp_seq_k; intro K12 hK12
    refine wp_region_plan 25 [5,11,18,23,25] [0,1,2,3,4,6,7,8,9,10,5,11,12,13,14,15,16,17,19,20,21,22,18,23,24,25] (fun x => Hq w0 ([row b13 66 (.int .i64 cn :: dc Y)] :: [row gP 5 (cel cB (l ++ List.replicate 80 165))] :: [row b1 64 (PC wd di cn hg X Y (.slice PA l.length cp) (.slice pa ps.length pc))] :: []) x) (by kernel_rfl) (by kernel_rfl) (Hq.drew (Hp.qp [[row b13 66 (.int .i64 cn :: dc Y)], [row gP 5 (cel cB (l ++ List.replicate 80 165))], [row b1 64 (PC wd di cn hg X Y (.slice PA l.length cp) (.slice pa ps.length pc))]] [] [0, 1, 2] hA30)) ?_
    have hA31 := Hl.drew hA30
    refine vp_y hF rfl rfl rfl rfl (by decide) _ (fun x hx => y_move rfl rfl) (fun a hF => ?_)
    refine vp_y hF rfl rfl rfl rfl (by decide) _ (fun x hx => y_field rfl Tryd.underlying64 rfl sz36_tl (by decide) rfl (rfl : (⟨_, 0 + _, none⟩ : Addr) = ⟨_, 4, none⟩)) (fun a hF => ?_)
    refine vp_y hF rfl rfl rfl rfl (by decide) _ (fun x hx => y_ldRow rfl hx rfl 2 rfl rw36_tl (by rw [pc_len hX hY]; decide) (pc_A hX)) (fun a hF => ?_)
    refine vp_y hF rfl rfl rfl rfl (by decide) _ (fun x hx => y_field rfl Tryd.underlying64 rfl sz36_tl (by decide) rfl (rfl : (⟨_, 0 + _, none⟩ : Addr) = ⟨_, 36, none⟩)) (fun a hF => ?_)
    refine vp_y hF rfl rfl rfl rfl (by decide) _ (fun x hx => y_ldRow rfl hx rfl 2 rfl rw36_tl (by rw [pc_len hX hY]; decide) (pc_B hX hY)) (fun a hF => ?_)
    refine vp_y hF rfl rfl rfl rfl (by decide) _ (fun x hx => y_move rfl rfl) (fun a hF => ?_)
    refine vp_y hF rfl rfl rfl rfl (by decide) _ (fun x hx => y_field rfl Tryd.underlying64 rfl sz36_tl (by decide) rfl (rfl : (⟨_, 0 + _, none⟩ : Addr) = ⟨_, 4, none⟩)) (fun a hF => ?_)
    refine vp_y hF rfl rfl rfl rfl (by decide) _ (fun x hx => y_ldRow rfl hx rfl 2 rfl rw36_tl (by rw [pc_len hX hY]; decide) (pc_A hX)) (fun a hF => ?_)
    refine vp_y hF rfl rfl rfl rfl (by decide) _ (fun x hx => y_field rfl Tryd.underlying64 rfl sz36_tl (by decide) rfl (rfl : (⟨_, 0 + _, none⟩ : Addr) = ⟨_, 36, none⟩)) (fun a hF => ?_)
    refine vp_y hF rfl rfl rfl rfl (by decide) _ (fun x hx => y_ldRow rfl hx rfl 2 rfl rw36_tl (by rw [pc_len hX hY]; decide) (pc_B hX hY)) (fun a hF => ?_)
    refine vp_l rfl rfl rfl (fun K hK => ws_call hF rfl (by decide) cl40_tl rfl rfl ?_)
    with_reducible refine (tt_link w0 _ ([row b13 66 (.int .i64 cn :: dc Y)] :: [row gP 5 (cel cB (l ++ List.replicate 80 165))] :: [row b1 64 (PC wd di cn hg X Y (.slice PA l.length cp) (.slice pa ps.length pc))] :: []) wd X Y hX hY hT hA31 ).mono ?_
    rintro e' w32 ⟨rfl, hA33⟩
    refine ⟨_, rfl, fun a hF => hK _ _ (fun _ => ?_) ?_⟩
    · exact Hp.qp [[row b13 66 (.int .i64 cn :: dc Y)], [row gP 5 (cel cB (l ++ List.replicate 80 165))], [row b1 64 (PC wd di cn hg X Y (.slice PA l.length cp) (.slice pa ps.length pc))]] [] [0, 1, 2] hA33
    clear hK K
    replace hA33 : Hp w0 ([row b13 66 (.int .i64 cn :: dc Y)] :: [row gP 5 (cel cB (l ++ List.replicate 80 165))] :: [row b1 64 (PC wd di cn hg X Y (.slice PA l.length cp) (.slice pa ps.length pc))] :: []) w32 := hA33
    refine vp_l rfl rfl rfl (fun K hK => ws_call hF rfl (by decide) cl41_tl rfl rfl ?_)
    with_reducible refine (tt_rlink w0 _ ([row b13 66 (.int .i64 cn :: dc Y)] :: [row gP 5 (cel cB (l ++ List.replicate 80 165))] :: [row b1 64 (PC wd di cn hg X Y (.slice PA l.length cp) (.slice pa ps.length pc))] :: []) wd X Y hX hY hA33 ).mono ?_
    rintro e' w34 ⟨rfl, hA35⟩
    refine ⟨_, rfl, fun a hF => hK _ _ (fun _ => ?_) ?_⟩
    · exact Hp.qp [[row b13 66 (.int .i64 cn :: dc Y)], [row gP 5 (cel cB (l ++ List.replicate 80 165))], [row b1 64 (PC wd di cn hg X Y (.slice PA l.length cp) (.slice pa ps.length pc))]] [] [0, 1, 2] hA35
    clear hK K
    replace hA35 : Hp w0 ([row b13 66 (.int .i64 cn :: dc Y)] :: [row gP 5 (cel cB (l ++ List.replicate 80 165))] :: [row b1 64 (PC wd di cn hg X Y (.slice PA l.length cp) (.slice pa ps.length pc))] :: []) w34 := hA35
    refine vp_y hF rfl rfl rfl rfl (by decide) _ (fun x hx => y_neB (c := false) rfl Tryd.underlying36 Tryd.underlying5 sz5_tl (by kernel_rfl) rfl rfl (ofL_length _ _ _) (ofL_length _ _ _) (by simp)) (fun a hF => ?_)
    refine vp_y hF rfl rfl rfl rfl (by decide) _ (fun x hx => y_move rfl rfl) (fun a hF => ?_)
    refine vp_yg hF rfl rfl rfl rfl rfl rfl rfl (by decide) _ (fun x hx => y_move rfl rfl) (fun a hF => ?_)
    refine vp_yg hF rfl rfl rfl rfl rfl rfl rfl (by decide) _ (fun x hx => y_field rfl Tryd.underlying64 rfl sz36_tl (by decide) rfl (rfl : (⟨_, 0 + _, none⟩ : Addr) = ⟨_, 4, none⟩)) (fun a hF => ?_)
    refine vp_yg hF rfl rfl rfl rfl rfl rfl rfl (by decide) _ (fun x hx => y_ldRow rfl hx rfl 2 rfl rw36_tl (by rw [pc_len hX hY]; decide) (pc_A hX)) (fun a hF => ?_)
    refine vp_yg hF rfl rfl rfl rfl rfl rfl rfl (by decide) _ (fun x hx => y_ldRow rfl hx rfl 0 rfl rw66_tl (tl_e1 hY) (tl_e0 hY)) (fun a hF => ?_)
    refine vp_yg hF rfl rfl rfl rfl rfl rfl rfl (by decide) _ (fun x hx => y_move rfl rfl) (fun a hF => ?_)
    refine vp_yg hF rfl rfl rfl rfl rfl rfl rfl (by decide) _ (fun x hx => y_field rfl Tryd.underlying64 rfl sz36_tl (by decide) rfl (rfl : (⟨_, 0 + _, none⟩ : Addr) = ⟨_, 4, none⟩)) (fun a hF => ?_)
    refine vp_yg hF rfl rfl rfl rfl rfl rfl rfl (by decide) _ (fun x hx => y_ldRow rfl hx rfl 2 rfl rw36_tl (by rw [pc_len hX hY]; decide) (pc_A hX)) (fun a hF => ?_)
    refine vp_yg hF rfl rfl rfl rfl rfl rfl rfl (by decide) _ (fun x hx => y_ldRow rfl hx rfl 0 rfl rw66_tl (tl_e1 hY) (tl_e0 hY)) (fun a hF => ?_)
    refine vp_lg hF rfl rfl rfl rfl rfl rfl (fun K hK => ws_call hF rfl (by decide) cl42_tl rfl rfl ?_)
    with_reducible refine (tt_entry w0 _ ([row b13 66 (.int .i64 cn :: dc Y)] :: [row gP 5 (cel cB (l ++ List.replicate 80 165))] :: [row b1 64 (PC wd di cn hg X Y (.slice PA l.length cp) (.slice pa ps.length pc))] :: []) wd cn X Y hX hY hT hA35 ).mono ?_
    rintro e' w36 ⟨rfl, hA37⟩
    refine ⟨_, rfl, fun a hF => hK _ _ (fun _ => ?_) ?_⟩
    · exact Hp.qp [[row b13 66 (.int .i64 cn :: dc Y)], [row gP 5 (cel cB (l ++ List.replicate 80 165))], [row b1 64 (PC wd di cn hg X Y (.slice PA l.length cp) (.slice pa ps.length pc))]] [] [0, 1, 2] hA37
    clear hK K
    replace hA37 : Hp w0 ([row b13 66 (.int .i64 cn :: dc Y)] :: [row gP 5 (cel cB (l ++ List.replicate 80 165))] :: [row b1 64 (PC wd di cn hg X Y (.slice PA l.length cp) (.slice pa ps.length pc))] :: []) w36 := hA37
    refine vp_lg hF rfl rfl rfl rfl rfl rfl (fun K hK => ws_call hF rfl (by decide) cl43_tl rfl rfl ?_)
    with_reducible refine (tt_rentry w0 _ ([row b13 66 (.int .i64 cn :: dc Y)] :: [row gP 5 (cel cB (l ++ List.replicate 80 165))] :: [row b1 64 (PC wd di cn hg X Y (.slice PA l.length cp) (.slice pa ps.length pc))] :: []) wd cn X Y hX hY hA37 ).mono ?_
    rintro e' w38 ⟨rfl, hA39⟩
    refine ⟨_, rfl, fun a hF => hK _ _ (fun _ => ?_) ?_⟩
    · exact Hp.qp [[row b13 66 (.int .i64 cn :: dc Y)], [row gP 5 (cel cB (l ++ List.replicate 80 165))], [row b1 64 (PC wd di cn hg X Y (.slice PA l.length cp) (.slice pa ps.length pc))]] [] [0, 1, 2] hA39
    clear hK K
    replace hA39 : Hp w0 ([row b13 66 (.int .i64 cn :: dc Y)] :: [row gP 5 (cel cB (l ++ List.replicate 80 165))] :: [row b1 64 (PC wd di cn hg X Y (.slice PA l.length cp) (.slice pa ps.length pc))] :: []) w38 := hA39
    refine vp_yg hF rfl rfl rfl rfl rfl rfl rfl (by decide) _ (fun x hx => y_neB (c := false) rfl Tryd.underlying36 Tryd.underlying5 sz5_tl (by kernel_rfl) rfl rfl (ofL_length _ _ _) (ofL_length _ _ _) (by simp)) (fun a hF => ?_)
    refine vp_ly hF rfl rfl rfl rfl (by decide) _ (y_pick rfl rfl rfl) (fun h => absurd h (by decide)) (fun a hF => ?_)
    refine plan_end ?_
    refine hK12 _ _ ?_; clear  hK12 K12
    refine vc_false hF rfl ?_
    apply wp_skip
    refine hK11 _ _ ?_; clear  hK11 K11
    apply wp_seq_k; intro K13 hK13
    apply wp_seq_k; intro K14 hK14
    refine wp_region_plan 34 [5,11,17,21,28,32,34] [0,1,2,3,4,6,7,8,9,10,5,11,12,13,14,15,16,18,19,20,17,21,22,23,24,25,26,27,29,30,31,28,32,33,34] (fun x => Hq w0 ([row b13 66 (.int .i64 cn :: dc Y)] :: [row gP 5 (cel cB (l ++ List.replicate 80 165))] :: [row b1 64 (PC wd di cn hg X Y (.slice PA l.length cp) (.slice pa ps.length pc))] :: []) x) (by kernel_rfl) (by kernel_rfl) (Hq.drew (Hp.qp [[row b13 66 (.int .i64 cn :: dc Y)], [row gP 5 (cel cB (l ++ List.replicate 80 165))], [row b1 64 (PC wd di cn hg X Y (.slice PA l.length cp) (.slice pa ps.length pc))]] [] [0, 1, 2] hA39)) ?_
    have hA40 := Hl.drew hA39
    refine vp_y hF rfl rfl rfl rfl (by decide) _ (fun x hx => y_move rfl rfl) (fun a hF => ?_)
    refine vp_y hF rfl rfl rfl rfl (by decide) _ (fun x hx => y_field rfl Tryd.underlying64 rfl sz36_tl (by decide) rfl (rfl : (⟨_, 0 + _, none⟩ : Addr) = ⟨_, 4, none⟩)) (fun a hF => ?_)
    refine vp_y hF rfl rfl rfl rfl (by decide) _ (fun x hx => y_ldRow rfl hx rfl 2 rfl rw36_tl (by rw [pc_len hX hY]; decide) (pc_A hX)) (fun a hF => ?_)
    refine vp_y hF rfl rfl rfl rfl (by decide) _ (fun x hx => y_field rfl Tryd.underlying64 rfl sz36_tl (by decide) rfl (rfl : (⟨_, 0 + _, none⟩ : Addr) = ⟨_, 36, none⟩)) (fun a hF => ?_)
    refine vp_y hF rfl rfl rfl rfl (by decide) _ (fun x hx => y_ldRow rfl hx rfl 2 rfl rw36_tl (by rw [pc_len hX hY]; decide) (pc_B hX hY)) (fun a hF => ?_)
    refine vp_y hF rfl rfl rfl rfl (by decide) _ (fun x hx => y_move rfl rfl) (fun a hF => ?_)
    refine vp_y hF rfl rfl rfl rfl (by decide) _ (fun x hx => y_field rfl Tryd.underlying64 rfl sz36_tl (by decide) rfl (rfl : (⟨_, 0 + _, none⟩ : Addr) = ⟨_, 4, none⟩)) (fun a hF => ?_)
    refine vp_y hF rfl rfl rfl rfl (by decide) _ (fun x hx => y_ldRow rfl hx rfl 2 rfl rw36_tl (by rw [pc_len hX hY]; decide) (pc_A hX)) (fun a hF => ?_)
    refine vp_y hF rfl rfl rfl rfl (by decide) _ (fun x hx => y_field rfl Tryd.underlying64 rfl sz36_tl (by decide) rfl (rfl : (⟨_, 0 + _, none⟩ : Addr) = ⟨_, 36, none⟩)) (fun a hF => ?_)
    refine vp_y hF rfl rfl rfl rfl (by decide) _ (fun x hx => y_ldRow rfl hx rfl 2 rfl rw36_tl (by rw [pc_len hX hY]; decide) (pc_B hX hY)) (fun a hF => ?_)
    refine vp_l rfl rfl rfl (fun K hK => ws_call hF rfl (by decide) cl44_tl rfl rfl ?_)
    with_reducible refine (tt_branch w0 _ ([row b13 66 (.int .i64 cn :: dc Y)] :: [row gP 5 (cel cB (l ++ List.replicate 80 165))] :: [row b1 64 (PC wd di cn hg X Y (.slice PA l.length cp) (.slice pa ps.length pc))] :: []) wd X Y hX hY hT hA40 ).mono ?_
    rintro e' w41 ⟨rfl, hA42⟩
    refine ⟨_, rfl, fun a hF => hK _ _ (fun _ => ?_) ?_⟩
    · exact Hp.qp [[row b13 66 (.int .i64 cn :: dc Y)], [row gP 5 (cel cB (l ++ List.replicate 80 165))], [row b1 64 (PC wd di cn hg X Y (.slice PA l.length cp) (.slice pa ps.length pc))]] [] [0, 1, 2] hA42
    clear hK K
    replace hA42 : Hp w0 ([row b13 66 (.int .i64 cn :: dc Y)] :: [row gP 5 (cel cB (l ++ List.replicate 80 165))] :: [row b1 64 (PC wd di cn hg X Y (.slice PA l.length cp) (.slice pa ps.length pc))] :: []) w41 := hA42
    refine vp_l rfl rfl rfl (fun K hK => ws_call hF rfl (by decide) cl45_tl rfl rfl ?_)
    with_reducible refine (tt_rbranch w0 _ ([row b13 66 (.int .i64 cn :: dc Y)] :: [row gP 5 (cel cB (l ++ List.replicate 80 165))] :: [row b1 64 (PC wd di cn hg X Y (.slice PA l.length cp) (.slice pa ps.length pc))] :: []) wd X Y hX hY hA42 ).mono ?_
    rintro e' w43 ⟨rfl, hA44⟩
    refine ⟨_, rfl, fun a hF => hK _ _ (fun _ => ?_) ?_⟩
    · exact Hp.qp [[row b13 66 (.int .i64 cn :: dc Y)], [row gP 5 (cel cB (l ++ List.replicate 80 165))], [row b1 64 (PC wd di cn hg X Y (.slice PA l.length cp) (.slice pa ps.length pc))]] [] [0, 1, 2] hA44
    clear hK K
    replace hA44 : Hp w0 ([row b13 66 (.int .i64 cn :: dc Y)] :: [row gP 5 (cel cB (l ++ List.replicate 80 165))] :: [row b1 64 (PC wd di cn hg X Y (.slice PA l.length cp) (.slice pa ps.length pc))] :: []) w43 := hA44
    refine vp_y hF rfl rfl rfl rfl (by decide) _ (fun x hx => y_neB (c := false) rfl Tryd.underlying36 Tryd.underlying5 sz5_tl (by kernel_rfl) rfl rfl (ofL_length _ _ _) (ofL_length _ _ _) (by simp)) (fun a hF => ?_)
    refine vp_y hF rfl rfl rfl rfl (by decide) _ (fun x hx => y_move rfl rfl) (fun a hF => ?_)
    refine vp_yg hF rfl rfl rfl rfl rfl rfl rfl (by decide) _ (fun x hx => y_move rfl rfl) (fun a hF => ?_)
    refine vp_yg hF rfl rfl rfl rfl rfl rfl rfl (by decide) _ (fun x hx => y_field rfl Tryd.underlying64 rfl sz3_tl (by decide) rfl (rfl : (⟨_, 0 + _, none⟩ : Addr) = ⟨_, 3, none⟩)) (fun a hF => ?_)
    refine vp_yg hF rfl rfl rfl rfl rfl rfl rfl (by decide) _ (fun x hx => y_ld rfl hx rfl 2 rfl rfl nr3_tl) (fun a hF => ?_)
    refine vp_yg hF rfl rfl rfl rfl rfl rfl rfl (by decide) _ (fun x hx => y_move rfl rfl) (fun a hF => ?_)
    refine vp_yg hF rfl rfl rfl rfl rfl rfl rfl (by decide) _ (fun x hx => y_field rfl Tryd.underlying64 rfl sz3_tl (by decide) rfl (rfl : (⟨_, 0 + _, none⟩ : Addr) = ⟨_, 3, none⟩)) (fun a hF => ?_)
    refine vp_yg hF rfl rfl rfl rfl rfl rfl rfl (by decide) _ (fun x hx => y_ld rfl hx rfl 2 rfl rfl nr3_tl) (fun a hF => ?_)
    refine vp_lg hF rfl rfl rfl rfl rfl rfl (fun K hK => ws_call hF rfl (by decide) cl34_tl rfl rfl ?_)
    with_reducible refine (tt_empty w0 _ ([row b13 66 (.int .i64 cn :: dc Y)] :: [row gP 5 (cel cB (l ++ List.replicate 80 165))] :: [row b1 64 (PC wd di cn hg X Y (.slice PA l.length cp) (.slice pa ps.length pc))] :: []) wd hg hT hA44 ).mono ?_
    rintro e' w45 ⟨rfl, hA46⟩
    refine ⟨_, rfl, fun a hF => hK _ _ (fun _ => ?_) ?_⟩
    · exact Hp.qp [[row b13 66 (.int .i64 cn :: dc Y)], [row gP 5 (cel cB (l ++ List.replicate 80 165))], [row b1 64 (PC wd di cn hg X Y (.slice PA l.length cp) (.slice pa ps.length pc))]] [] [0, 1, 2] hA46
    clear hK K
    replace hA46 : Hp w0 ([row b13 66 (.int .i64 cn :: dc Y)] :: [row gP 5 (cel cB (l ++ List.replicate 80 165))] :: [row b1 64 (PC wd di cn hg X Y (.slice PA l.length cp) (.slice pa ps.length pc))] :: []) w45 := hA46
    refine vp_lg hF rfl rfl rfl rfl rfl rfl (fun K hK => ws_call hF rfl (by decide) cl46_tl rfl rfl ?_)
    with_reducible refine (tt_rempty w0 _ ([row b13 66 (.int .i64 cn :: dc Y)] :: [row gP 5 (cel cB (l ++ List.replicate 80 165))] :: [row b1 64 (PC wd di cn hg X Y (.slice PA l.length cp) (.slice pa ps.length pc))] :: []) wd hg hA46 ).mono ?_
    rintro e' w47 ⟨rfl, hA48⟩
    refine ⟨_, rfl, fun a hF => hK _ _ (fun _ => ?_) ?_⟩
    · exact Hp.qp [[row b13 66 (.int .i64 cn :: dc Y)], [row gP 5 (cel cB (l ++ List.replicate 80 165))], [row b1 64 (PC wd di cn hg X Y (.slice PA l.length cp) (.slice pa ps.length pc))]] [] [0, 1, 2] hA48
    clear hK K
    replace hA48 : Hp w0 ([row b13 66 (.int .i64 cn :: dc Y)] :: [row gP 5 (cel cB (l ++ List.replicate 80 165))] :: [row b1 64 (PC wd di cn hg X Y (.slice PA l.length cp) (.slice pa ps.length pc))] :: []) w47 := hA48
    refine vp_yg hF rfl rfl rfl rfl rfl rfl rfl (by decide) _ (fun x hx => y_neB (c := false) rfl Tryd.underlying36 Tryd.underlying5 sz5_tl (by kernel_rfl) rfl rfl (emptyL_length _ _) (emptyL_length _ _) (by simp)) (fun a hF => ?_)
    refine vp_y hF rfl rfl rfl rfl (by decide) _ (fun x hx => y_pick rfl rfl rfl) (fun a hF => ?_)
    refine vp_y hF rfl rfl rfl rfl (by decide) _ (fun x hx => y_move rfl rfl) (fun a hF => ?_)
    refine vp_yg hF rfl rfl rfl rfl rfl rfl rfl (by decide) _ (fun x hx => y_field rfl Tryd.underlying64 rfl sz24_tl (by decide) rfl (rfl : (⟨_, 0 + _, none⟩ : Addr) = ⟨_, 68, none⟩)) (fun a hF => ?_)
    refine vp_yg hF rfl rfl rfl rfl rfl rfl rfl (by decide) _ (fun x hx => y_ld rfl hx rfl 2 rfl (pc_P hX hY) nr24_tl) (fun a hF => ?_)
    refine vp_yg hF rfl rfl rfl rfl rfl rfl rfl (by decide) _ (fun x hx => y_convStr (l := l) rfl Tryd.underlying24 Tryd.underlying5 Tryd.underlying9 rfl rfl (hR.bts (Hq.sub hx (List.nil_subset _)))) (fun a hF => ?_)
    refine vp_yg hF rfl rfl rfl rfl rfl rfl rfl (by decide) _ (fun x hx => y_field rfl Tryd.underlying64 rfl sz24_tl (by decide) rfl (rfl : (⟨_, 0 + _, none⟩ : Addr) = ⟨_, 68, none⟩)) (fun a hF => ?_)
    refine vp_yg hF rfl rfl rfl rfl rfl rfl rfl (by decide) _ (fun x hx => y_ld rfl hx rfl 2 rfl (pc_P hX hY) nr24_tl) (fun a hF => ?_)
    refine vp_yg hF rfl rfl rfl rfl rfl rfl rfl (by decide) _ (fun x hx => y_convStr (l := l) rfl Tryd.underlying24 Tryd.underlying5 Tryd.underlying9 rfl rfl (hR.bts (Hq.sub hx (List.nil_subset _)))) (fun a hF => ?_)
    refine vp_lg hF rfl rfl rfl rfl rfl rfl (fun K hK => ws_call hF rfl (by decide) cl47_tl rfl rfl ?_)
    with_reducible refine (tt_key w0 _ ([row b13 66 (.int .i64 cn :: dc Y)] :: [row gP 5 (cel cB (l ++ List.replicate 80 165))] :: [row b1 64 (PC wd di cn hg X Y (.slice PA l.length cp) (.slice pa ps.length pc))] :: []) l hT (by omega) hA48 ).mono ?_
    rintro e' w49 ⟨rfl, hA50⟩
    refine ⟨_, rfl, fun a hF => hK _ _ (fun _ => ?_) ?_⟩
    · exact Hp.qp [[row b13 66 (.int .i64 cn :: dc Y)], [row gP 5 (cel cB (l ++ List.replicate 80 165))], [row b1 64 (PC wd di cn hg X Y (.slice PA l.length cp) (.slice pa ps.length pc))]] [] [0, 1, 2] hA50
    clear hK K
    replace hA50 : Hp w0 ([row b13 66 (.int .i64 cn :: dc Y)] :: [row gP 5 (cel cB (l ++ List.replicate 80 165))] :: [row b1 64 (PC wd di cn hg X Y (.slice PA l.length cp) (.slice pa ps.length pc))] :: []) w49 := hA50
    refine vp_lg hF rfl rfl rfl rfl rfl rfl (fun K hK => ws_call hF rfl (by decide) cl48_tl rfl rfl ?_)
    with_reducible refine (tt_rkey0 w0 _ ([row b13 66 (.int .i64 cn :: dc Y)] :: [row gP 5 (cel cB (l ++ List.replicate 80 165))] :: [row b1 64 (PC wd di cn hg X Y (.slice PA l.length cp) (.slice pa ps.length pc))] :: []) l (by omega) hA50 ).mono ?_
    rintro e' w51 ⟨rfl, hA52⟩
    refine ⟨_, rfl, fun a hF => hK _ _ (fun _ => ?_) ?_⟩
    · exact Hp.qp [[row b13 66 (.int .i64 cn :: dc Y)], [row gP 5 (cel cB (l ++ List.replicate 80 165))], [row b1 64 (PC wd di cn hg X Y (.slice PA l.length cp) (.slice pa ps.length pc))]] [] [0, 1, 2] hA52
    clear hK K
    replace hA52 : Hp w0 ([row b13 66 (.int .i64 cn :: dc Y)] :: [row gP 5 (cel cB (l ++ List.replicate 80 165))] :: [row b1 64 (PC wd di cn hg X Y (.slice PA l.length cp) (.slice pa ps.length pc))] :: []) w51 := hA52
    refine vp_yg hF rfl rfl rfl rfl rfl rfl rfl (by decide) _ (fun x hx => y_neB (c := false) rfl Tryd.underlying36 Tryd.underlying5 sz5_tl (by kernel_rfl) rfl rfl (sha_length _) (sha_length _) (by simp)) (fun a hF => ?_)
    refine vp_ly hF rfl rfl rfl rfl (by decide) _ (y_pick rfl rfl rfl) (fun h => absurd h (by decide)) (fun a hF => ?_)
    refine plan_end ?_
    refine hK14 _ _ ?_; clear  hK14 K14
    refine vc_false hF rfl ?_
    apply wp_skip
    refine hK13 _ _ ?_; clear  hK13 K13
    apply wp_seq_k; intro K15 hK15
    refine wp_region_lit ?_
    refine vc_y hF rfl rfl (by decide) _ (y_assign rfl rfl) (fun a hF => ?_)
    refine vc_y hF rfl rfl (by decide) _ (y_assign rfl rfl) (fun a hF => ?_)
    refine vc_nil ?_
    refine hK15 _ _ ?_; clear  hK15 K15
    apply wp_seq_k; intro K16 hK16
    apply wp_seq_k; intro K17 hK17
    refine wp_region_lit ?_
    refine vc_y hF rfl rfl (by decide) _ (y_assign rfl rfl) (fun a hF => ?_)
    refine vc_nil ?_
    refine hK17 _ _ ?_; clear  hK17 K17
    apply wp_block
    have hA53 : Hp w0 ([row b1 64 (PC wd di cn hg X Y (.slice PA l.length cp) (.slice pa ps.length pc))] :: [row gP 5 (cel cB (l ++ List.replicate 80 165))] :: []) w51 := Hp.sel [[row b13 66 (.int .i64 cn :: dc Y)], [row gP 5 (cel cB (l ++ List.replicate 80 165))], [row b1 64 (PC wd di cn hg X Y (.slice PA l.length cp) (.slice pa ps.length pc))]] [] [2, 1] [0] hA52 rfl
    have hA54 : Hp w0 (([] : Seg) :: [row b1 64 (PC wd di cn hg X Y (.slice PA l.length cp) (.slice pa ps.length pc))] :: [row gP 5 (cel cB (l ++ List.replicate 80 165))] :: []) w51 := Hp.nil hA53
    have hA55 : Hp w0 (([] : Seg) :: ([] : Seg) :: [row b1 64 (PC wd di cn hg X Y (.slice PA l.length cp) (.slice pa ps.length pc))] :: [row gP 5 (cel cB (l ++ List.replicate 80 165))] :: []) w51 := Hp.nil hA54
    have hA56 : Hp w0 (([] : Seg) :: ([] : Seg) :: ([] : Seg) :: [row b1 64 (PC wd di cn hg X Y (.slice PA l.length cp) (.slice pa ps.length pc))] :: [row gP 5 (cel cB (l ++ List.replicate 80 165))] :: []) w51 := Hp.nil hA55
    refine vc_loop (G := Nat) (fun i a x => ∃ (qs : List (Nat × List UInt8)) (fv : Value) (pv : Value) (XF : Seg) (XP : Seg), i ≤ ps.length ∧ qs.map (·.2) = (ps.take i).map (·.2.2) ∧ Buf 24 1 XF fv qs.length (qs.map roomV) ∧ Buf 24 1 XP pv qs.length (qs.map partV) ∧ Fr 299 [(9, .int .i64 (i : Int)), (7, fv), (8, pv), (1, .pointer (some ⟨b1, 0, none⟩)), (3, .slice (some ⟨gP, 0, none⟩) (l.length + 80) (l.length + 80)), (4, .slice (some ⟨gP, 0, none⟩) l.length (l.length + 80)), (6, .int .i64 wd)] a ∧ Hp w0 (XF :: XP :: (qs.map (roomS 5)).flatten :: [row b1 64 (PC wd di cn hg X Y (.slice PA l.length cp) (.slice pa ps.length pc))] :: [row gP 5 (cel cB (l ++ List.replicate 80 165))] :: []) x) (fun i => ps.length - i) 0 (⟨[], .slice none 0 0, .slice none 0 0, [], [], Nat.zero_le _, rfl, Buf.nil _ _, Buf.nil _ _, hF.keep [9, 7, 8, 1, 3, 4, 6] rfl, hA56⟩) ?_
    clear hF
    rintro i a w58 ⟨qs, fv, pv, XF, XP, hi, hqs, hF1, hP1, hF, hA57⟩
    apply wp_seq_k; intro K18 hK18
    apply wp_seq_k; intro K19 hK19
    refine wp_region_lit ?_
    refine vc_y hF rfl rfl (by decide) _ (y_move rfl rfl) (fun a hF => ?_)
    refine vc_y hF rfl rfl (by decide) _ (y_field rfl Tryd.underlying64 rfl sz29_tl (by decide) rfl (rfl : (⟨_, 0 + _, none⟩ : Addr) = ⟨_, 69, none⟩)) (fun a hF => ?_)
    refine vc_y hF rfl rfl (by decide) _ (y_ld rfl hA57.q rfl 3 rfl (pc_Q hX hY) nr29_tl) (fun a hF => ?_)
    refine vc_y hF rfl rfl (by decide) _ (y_lenSl rfl Tryd.underlying29 rfl rfl) (fun a hF => ?_)
    refine vc_y hF rfl rfl (by decide) _ (y_cmp rfl rfl rfl rfl rfl) (fun a hF => ?_)
    refine vc_nil ?_
    refine hK19 _ _ ?_; clear  hK19 K19
    by_cases hlt : i < ps.length
    · refine vc_trueB hF rfl (lss_t (by omega)) ?_
      have hFn := hF
      obtain ⟨⟨A0, c0, l0⟩, hp⟩ : ∃ q, ps[i]? = some q := ⟨_, List.getElem?_eq_getElem hlt⟩
      have hmem := List.mem_of_getElem? hp
      obtain ⟨hc0, hR0⟩ := hP.2 _ hmem
      have hl0 : l0.length < 140737488351300 := hpl _ hmem
      obtain ⟨b, p, rfl, hc⟩ := hP.1.ne (i := i) (by rw [List.length_map]; exact hlt)
      have hF := hFn
      have hqn : qs.length = i := by
        have h1 := congrArg List.length hqs
        rw [List.length_map, List.length_map, List.length_take] at h1
        omega
      have hq2 : qs.length < 2147483648 := by omega
      apply wp_skip
      refine hK18 _ _ ?_; clear  hK18 K18
      apply wp_seq_k; intro K20 hK20
      apply wp_block
      apply wp_seq_k; intro K21 hK21
      refine wp_region_lit ?_
      refine vc_y hF rfl rfl (by decide) _ (y_field rfl Tryd.underlying64 rfl sz29_tl (by decide) rfl (rfl : (⟨_, 0 + _, none⟩ : Addr) = ⟨_, 69, none⟩)) (fun a hF => ?_)
      refine vc_y hF rfl rfl (by decide) _ (y_ld rfl hA57.q rfl 3 rfl (pc_Q hX hY) nr29_tl) (fun a hF => ?_)
      refine vc_y hF rfl rfl (by decide) _ (y_move rfl rfl) (fun a hF => ?_)
      refine vc_y hF rfl rfl (by decide) _ (y_ixSl rfl Tryd.underlying29 sz24_tl rfl rfl i rfl hlt (ad2 _ _ _)) (fun a hF => ?_)
      refine vc_y hF rfl rfl (by decide) _ (y_ldC (u := .slice A0 l0.length c0) rfl (Hq.sub hA57.q (List.nil_subset _)) rfl hc i (by rw [List.length_map]; exact hlt) rfl (by rw [List.getElem?_map, hp]; rfl) nr24_tl) (fun a hF => ?_)
      refine vc_op rfl (fun K hK => ws_call hF rfl (by decide) cl20_tl rfl rfl ?_)
      with_reducible refine (cl_roomyB w0 _ (XF :: XP :: (qs.map (roomS 5)).flatten :: [row b1 64 (PC wd di cn hg X Y (.slice PA l.length cp) (.slice (some ⟨b, p, none⟩) ps.length pc))] :: [row gP 5 (cel cB (l ++ List.replicate 80 165))] :: []) A0 l0 c0 (hR0.mono (List.nil_subset _)) hA57 (by omega) ).mono ?_
      rintro e' w59 ⟨g, rfl, hA60⟩
      refine ⟨_, rfl, fun a hF => hK _ _ ?_⟩
      clear hK K
      replace hA60 : Hp w0 ([row g 5 (cel cB (l0 ++ List.replicate 80 165))] :: XF :: XP :: (qs.map (roomS 5)).flatten :: [row b1 64 (PC wd di cn hg X Y (.slice PA l.length cp) (.slice (some ⟨b, p, none⟩) ps.length pc))] :: [row gP 5 (cel cB (l ++ List.replicate 80 165))] :: []) w59 := hA60
      refine vc_y hF rfl rfl (by decide) _ (y_assign rfl rfl) (fun a hF => ?_)
      refine vc_nil ?_
      refine hK21 _ _ ?_; clear  hK21 K21
      apply wp_seq_k; intro K22 hK22
      refine wp_region_lit ?_
      refine vc_y hF rfl rfl (by decide) _ (y_move rfl rfl) (fun a hF => ?_)
      refine vc_y hF rfl rfl (by decide) _ (y_move rfl rfl) (fun a hF => ?_)
      refine vc_op rfl (fun K hK => hs_bs1 (u1 := .slice (some ⟨g, 0, none⟩) (l0.length + 80) (l0.length + 80)) hF rfl (by decide) rfl hA60 rfl (cl_bsS _ _ _) (fun b61 w62 a hb61 hF hA63 => hK _ _ ?_))
      clear hK K
      replace hA63 : Hp w0 ([row b61 24 [.slice (some ⟨g, 0, none⟩) (l0.length + 80) (l0.length + 80)]] :: [row g 5 (cel cB (l0 ++ List.replicate 80 165))] :: XF :: XP :: (qs.map (roomS 5)).flatten :: [row b1 64 (PC wd di cn hg X Y (.slice PA l.length cp) (.slice (some ⟨b, p, none⟩) ps.length pc))] :: [row gP 5 (cel cB (l ++ List.replicate 80 165))] :: []) w62 := hA63
      refine vc_op rfl (fun K hK => hs_append hF rfl (by decide) rfl hA63 2 rfl hF1 Tryd.underlying29 cl_elemT rfl rfl (Rc.srcC (W := [.slice (some ⟨g, 0, none⟩) (l0.length + 80) (l0.length + 80)]) (m := 1) (size := 1) (R := [row b61 24 [.slice (some ⟨g, 0, none⟩) (l0.length + 80) (l0.length + 80)]] :: [row g 5 (cel cB (l0 ++ List.replicate 80 165))] :: XF :: XP :: (qs.map (roomS 5)).flatten :: [row b1 64 (PC wd di cn hg X Y (.slice PA l.length cp) (.slice (some ⟨b, p, none⟩) ps.length pc))] :: [row gP 5 (cel cB (l ++ List.replicate 80 165))] :: []) (Rc.ofRow (i := 0) (off := 0) rfl rfl) hA63.q Tryd.underlying29 (by decide) rfl (by simp [Value.oneCell'])) (tl_grow hq2) (by decide) (fun fv2 XF2 w64 a hF2 hF hA65 => hK _ _ ?_))
      clear hK K
      replace hA65 : Hp w0 ([row b61 24 [.slice (some ⟨g, 0, none⟩) (l0.length + 80) (l0.length + 80)]] :: [row g 5 (cel cB (l0 ++ List.replicate 80 165))] :: XF2 :: XP :: (qs.map (roomS 5)).flatten :: [row b1 64 (PC wd di cn hg X Y (.slice PA l.length cp) (.slice (some ⟨b, p, none⟩) ps.length pc))] :: [row gP 5 (cel cB (l ++ List.replicate 80 165))] :: []) w64 := hA65
      refine vc_y hF rfl rfl (by decide) _ (y_assign rfl rfl) (fun a hF => ?_)
      refine vc_nil ?_
      refine hK22 _ _ ?_; clear  hK22 K22
      refine wp_region_lit ?_
      refine vc_y hF rfl rfl (by decide) _ (y_move rfl rfl) (fun a hF => ?_)
      refine vc_y hF rfl rfl (by decide) _ (y_move rfl rfl) (fun a hF => ?_)
      refine vc_y hF rfl rfl (by decide) _ (y_field rfl Tryd.underlying64 rfl sz29_tl (by decide) rfl (rfl : (⟨_, 0 + _, none⟩ : Addr) = ⟨_, 69, none⟩)) (fun a hF => ?_)
      refine vc_y hF rfl rfl (by decide) _ (y_ld rfl hA65.q rfl 5 rfl (pc_Q hX hY) nr29_tl) (fun a hF => ?_)
      refine vc_y hF rfl rfl (by decide) _ (y_move rfl rfl) (fun a hF => ?_)
      refine vc_y hF rfl rfl (by decide) _ (y_ixSl rfl Tryd.underlying29 sz24_tl rfl rfl i rfl hlt (ad2 _ _ _)) (fun a hF => ?_)
      refine vc_y hF rfl rfl (by decide) _ (y_ldC (u := .slice A0 l0.length c0) rfl (Hq.sub hA65.q (List.nil_subset _)) rfl hc i (by rw [List.length_map]; exact hlt) rfl (by rw [List.getElem?_map, hp]; rfl) nr24_tl) (fun a hF => ?_)
      refine vc_y hF rfl rfl (by decide) _ (y_lenSl rfl Tryd.underlying24 rfl rfl) (fun a hF => ?_)
      refine vc_y hF rfl rfl (by decide) _ (y_slice rfl Tryd.underlying24 kb_sz_byte rfl (.none 0) (.some rfl rfl) (Nat.zero_le _) (by omega) slice_to) (fun a hF => ?_)
      refine vc_op rfl (fun K hK => hs_bs1 (u1 := .slice (some ⟨g, 0, none⟩) l0.length (l0.length + 80)) hF rfl (by decide) rfl hA65 rfl (cl_bsS _ _ _) (fun b66 w67 a hb66 hF hA68 => hK _ _ ?_))
      clear hK K
      replace hA68 : Hp w0 ([row b66 24 [.slice (some ⟨g, 0, none⟩) l0.length (l0.length + 80)]] :: [row b61 24 [.slice (some ⟨g, 0, none⟩) (l0.length + 80) (l0.length + 80)]] :: [row g 5 (cel cB (l0 ++ List.replicate 80 165))] :: XF2 :: XP :: (qs.map (roomS 5)).flatten :: [row b1 64 (PC wd di cn hg X Y (.slice PA l.length cp) (.slice (some ⟨b, p, none⟩) ps.length pc))] :: [row gP 5 (cel cB (l ++ List.replicate 80 165))] :: []) w67 := hA68
      refine vc_op rfl (fun K hK => hs_append hF rfl (by decide) rfl hA68 4 rfl hP1 Tryd.underlying29 cl_elemT rfl rfl (Rc.srcC (W := [.slice (some ⟨g, 0, none⟩) l0.length (l0.length + 80)]) (m := 1) (size := 1) (R := [row b66 24 [.slice (some ⟨g, 0, none⟩) l0.length (l0.length + 80)]] :: [row b61 24 [.slice (some ⟨g, 0, none⟩) (l0.length + 80) (l0.length + 80)]] :: [row g 5 (cel cB (l0 ++ List.replicate 80 165))] :: XF2 :: XP :: (qs.map (roomS 5)).flatten :: [row b1 64 (PC wd di cn hg X Y (.slice PA l.length cp) (.slice (some ⟨b, p, none⟩) ps.length pc))] :: [row gP 5 (cel cB (l ++ List.replicate 80 165))] :: []) (Rc.ofRow (i := 0) (off := 0) rfl rfl) hA68.q Tryd.underlying29 (by decide) rfl (by simp [Value.oneCell'])) (tl_grow hq2) (by decide) (fun pv2 XP2 w69 a hP2 hF hA70 => hK _ _ ?_))
      clear hK K
      replace hA70 : Hp w0 ([row b66 24 [.slice (some ⟨g, 0, none⟩) l0.length (l0.length + 80)]] :: [row b61 24 [.slice (some ⟨g, 0, none⟩) (l0.length + 80) (l0.length + 80)]] :: [row g 5 (cel cB (l0 ++ List.replicate 80 165))] :: XF2 :: XP2 :: (qs.map (roomS 5)).flatten :: [row b1 64 (PC wd di cn hg X Y (.slice PA l.length cp) (.slice (some ⟨b, p, none⟩) ps.length pc))] :: [row gP 5 (cel cB (l ++ List.replicate 80 165))] :: []) w69 := hA70
      refine vc_y hF rfl rfl (by decide) _ (y_assign rfl rfl) (fun a hF => ?_)
      refine vc_nil ?_
      refine hK20 _ _ ?_; clear  hK20 K20
      refine wp_region_lit ?_
      refine vc_y hF rfl rfl (by decide) _ (y_move rfl rfl) (fun a hF => ?_)
      refine vc_y hF rfl rfl (by decide) _ (y_add rfl rfl rfl (IntWalk.i64_in _ (by omega))) (fun a hF => ?_)
      refine vc_y hF rfl rfl (by decide) _ (y_assign rfl rfl) (fun a hF => ?_)
      refine vc_nil ?_
      have hA71 : Hp w0 (XF2 :: XP2 :: (qs.map (roomS 5)).flatten :: [row g 5 (cel cB (l0 ++ List.replicate 80 165))] :: [row b1 64 (PC wd di cn hg X Y (.slice PA l.length cp) (.slice (some ⟨b, p, none⟩) ps.length pc))] :: [row gP 5 (cel cB (l ++ List.replicate 80 165))] :: []) w69 := Hp.sel [[row b66 24 [.slice (some ⟨g, 0, none⟩) l0.length (l0.length + 80)]], [row b61 24 [.slice (some ⟨g, 0, none⟩) (l0.length + 80) (l0.length + 80)]], [row g 5 (cel cB (l0 ++ List.replicate 80 165))], XF2, XP2, (qs.map (roomS 5)).flatten, [row b1 64 (PC wd di cn hg X Y (.slice PA l.length cp) (.slice (some ⟨b, p, none⟩) ps.length pc))], [row gP 5 (cel cB (l ++ List.replicate 80 165))]] [] [3, 4, 5, 2, 6, 7] [0, 1] hA70 rfl
      have hA72 : Hp w0 (XF2 :: XP2 :: ((qs ++ [(g, l0)]).map (roomS 5)).flatten :: [row b1 64 (PC wd di cn hg X Y (.slice PA l.length cp) (.slice (some ⟨b, p, none⟩) ps.length pc))] :: [row gP 5 (cel cB (l ++ List.replicate 80 165))] :: []) w69 := hA71.cast (by simp [roomS])
      exact ⟨i + 1, by omega, qs ++ [(g, l0)], fv2, pv2, XF2, XP2, by omega, (by rw [List.map_append, hqs, List.take_add_one, hp]; simp), (by rw [List.length_append, List.map_append]; exact hF2), (by rw [List.length_append, List.map_append]; exact hP2), hF.keep [9, 7, 8, 1, 3, 4, 6] rfl, hA72⟩
    · refine vc_falseB hF rfl (lss_f (by omega)) ?_
      have hie : i = ps.length := by omega
      rw [hie, List.take_length] at hqs
      have hqn : qs.length = ps.length := by
        have h1 := congrArg List.length hqs
        rwa [List.length_map, List.length_map] at h1
      obtain ⟨TS, hTS⟩ : ∃ TS, TS = ps.map (·.2.2) := ⟨_, rfl⟩
      have hTq : qs.map (·.2) = TS := hqs.trans hTS.symm
      have hql : ∀ q ∈ qs, q.2.length < 140737488351300 := fun q hq => by
        have h1 : q.2 ∈ ps.map (·.2.2) := by rw [← hqs]; exact List.mem_map_of_mem hq
        obtain ⟨p, hp, e⟩ := List.mem_map.1 h1
        rw [← e]; exact hpl p hp
      have hfl : TS.flatten.length ≤ 2147483647 := by rw [hTS]; exact hfl0
      obtain ⟨TX, hTX⟩ : ∃ TX, TX = dom :: TS.flatten := ⟨_, rfl⟩
      have hTXl : TX.length ≤ 2147483648 := by rw [hTX, List.length_cons]; omega
      obtain ⟨AF, cF, rfl, _⟩ := hF1.slice
      obtain ⟨AP, cP, rfl, _⟩ := hP1.slice
      apply wp_exit
      refine hK16 _ _ ?_; clear hK18 K18 hK16 K16
      apply wp_seq_k; intro K23 hK23
      refine wp_region_lit ?_
      refine vc_y hF rfl rfl (by decide) _ (y_build (qs := #[]) rfl rfl cl_build0) (fun a hF => ?_)
      refine vc_op rfl (fun K hK => hs_box (cs := [.slice none 0 0, .slice none 0 0, .int .i64 0, .bool false]) hF rfl (by decide) rfl hA57 rfl (fun b73 w74 a hb73 hF hA75 => hK _ _ ?_))
      clear hK K
      replace hA75 : Hp w0 ([row b73 56 [.slice none 0 0, .slice none 0 0, .int .i64 0, .bool false]] :: XF :: XP :: (qs.map (roomS 5)).flatten :: [row b1 64 (PC wd di cn hg X Y (.slice PA l.length cp) (.slice pa ps.length pc))] :: [row gP 5 (cel cB (l ++ List.replicate 80 165))] :: []) w74 := hA75
      refine vc_y hF rfl rfl (by decide) _ (y_assign rfl rfl) (fun a hF => ?_)
      refine vc_nil ?_
      refine hK23 _ _ ?_; clear  hK23 K23
      apply wp_seq_k; intro K24 hK24
      apply wp_seq_k; intro K25 hK25
      refine wp_region_lit ?_
      refine vc_y hF rfl rfl (by decide) _ (y_assign rfl rfl) (fun a hF => ?_)
      refine vc_nil ?_
      refine hK25 _ _ ?_; clear  hK25 K25
      apply wp_block
      have hA76 : Hp w0 (([] : Seg) :: [row b73 56 [.slice none 0 0, .slice none 0 0, .int .i64 0, .bool false]] :: XF :: XP :: (qs.map (roomS 5)).flatten :: [row b1 64 (PC wd di cn hg X Y (.slice PA l.length cp) (.slice pa ps.length pc))] :: [row gP 5 (cel cB (l ++ List.replicate 80 165))] :: []) w74 := Hp.nil hA75
      have hA77 : Hp w0 ([row b73 56 [.slice none 0 0, .slice none 0 0, .int .i64 0, .bool false]] :: ([] : Seg) :: XF :: XP :: (qs.map (roomS 5)).flatten :: [row b1 64 (PC wd di cn hg X Y (.slice PA l.length cp) (.slice pa ps.length pc))] :: [row gP 5 (cel cB (l ++ List.replicate 80 165))] :: []) w74 := Hp.ord [([] : Seg), [row b73 56 [.slice none 0 0, .slice none 0 0, .int .i64 0, .bool false]], XF, XP, (qs.map (roomS 5)).flatten, [row b1 64 (PC wd di cn hg X Y (.slice PA l.length cp) (.slice pa ps.length pc))], [row gP 5 (cel cB (l ++ List.replicate 80 165))]] [] [1, 0, 2, 3, 4, 5, 6] hA76 rfl
      refine vc_loop (G := Nat) (fun i a x => ∃ (ks : List (KeptX UInt8)) (lv : Value) (wv : Value) (held : Int) (YB : Seg), i ≤ 3 ∧ BookV cB 24 5 1 ks lv wv YB ∧ Fr 299 [(12, .int .i64 (i : Int)), (1, .pointer (some ⟨b1, 0, none⟩)), (3, .slice (some ⟨gP, 0, none⟩) (l.length + 80) (l.length + 80)), (4, .slice (some ⟨gP, 0, none⟩) l.length (l.length + 80)), (6, .int .i64 wd), (7, .slice AF qs.length cF), (8, .slice AP qs.length cP), (11, .pointer (some ⟨b73, 0, none⟩))] a ∧ Hp w0 ([row b73 56 [lv, wv, .int .i64 held, .bool false]] :: YB :: XF :: XP :: (qs.map (roomS 5)).flatten :: [row b1 64 (PC wd di cn hg X Y (.slice PA l.length cp) (.slice pa ps.length pc))] :: [row gP 5 (cel cB (l ++ List.replicate 80 165))] :: []) x) (fun i => 3 - i) 0 (⟨[], _, _, 0, _, Nat.zero_le _, BookV.new _ _ _ _, hF.keep [12, 1, 3, 4, 6, 7, 8, 11] rfl, hA77⟩) ?_
      clear hF
      rintro i a w79 ⟨ks, lv, wv, held, YB, hi3, hB3, hF, hA78⟩
      apply wp_seq_k; intro K26 hK26
      apply wp_seq_k; intro K27 hK27
      refine wp_region_lit ?_
      refine vc_y hF rfl rfl (by decide) _ (y_move rfl rfl) (fun a hF => ?_)
      refine vc_y hF rfl rfl (by decide) _ (y_cmp rfl rfl rfl rfl rfl) (fun a hF => ?_)
      refine vc_nil ?_
      refine hK27 _ _ ?_; clear  hK27 K27
      by_cases hlt3 : i < 3
      · refine vc_trueB hF rfl (lss_t (by omega)) ?_
        apply wp_skip
        refine hK26 _ _ ?_; clear  hK26 K26
        apply wp_seq_k; intro K28 hK28
        apply wp_block
        apply wp_seq_k; intro K29 hK29
        refine wp_region_lit ?_
        refine vc_y hF rfl rfl (by decide) _ (y_field rfl Tryd.underlying64 rfl sz3_tl (by decide) rfl (rfl : (⟨_, 0 + _, none⟩ : Addr) = ⟨_, 1, none⟩)) (fun a hF => ?_)
        refine vc_y hF rfl rfl (by decide) _ (y_ld rfl hA78.q rfl 5 rfl rfl nr3_tl) (fun a hF => ?_)
        refine vc_y hF rfl rfl (by decide) _ (y_move rfl rfl) (fun a hF => ?_)
        have hPc : PcS w0 ([row b73 56 [lv, wv, .int .i64 held, .bool false]] :: YB :: XF :: XP :: (qs.map (roomS 5)).flatten :: [row b1 64 (PC wd di cn hg X Y (.slice PA l.length cp) (.slice pa ps.length pc))] :: [row gP 5 (cel cB (l ++ List.replicate 80 165))] :: []) AP (qs.map pcOf) := by
          obtain ⟨_, _, e1, _, h1⟩ := hP1.rc (w0 := w0) (R := ([row b73 56 [lv, wv, .int .i64 held, .bool false]] :: YB :: XF :: XP :: (qs.map (roomS 5)).flatten :: [row b1 64 (PC wd di cn hg X Y (.slice PA l.length cp) (.slice pa ps.length pc))] :: [row gP 5 (cel cB (l ++ List.replicate 80 165))] :: [])) (List.mem_cons_of_mem _ (List.mem_cons_of_mem _ (List.mem_cons_of_mem _ ((List.mem_cons_self ..)))))
          injection e1 with e1 _ _
          subst e1
          exact pcs_of (e := 5) h1 (List.mem_cons_of_mem _ (List.mem_cons_of_mem _ (List.mem_cons_of_mem _ (List.mem_cons_of_mem _ ((List.mem_cons_self ..))))))
        refine vc_op rfl (fun K hK => ws_call hF rfl (by decide) cl49_tl rfl rfl ?_)
        with_reducible refine (tt_text w0 _ ([row b73 56 [lv, wv, .int .i64 held, .bool false]] :: YB :: XF :: XP :: (qs.map (roomS 5)).flatten :: [row b1 64 (PC wd di cn hg X Y (.slice PA l.length cp) (.slice pa ps.length pc))] :: [row gP 5 (cel cB (l ++ List.replicate 80 165))] :: []) _ (List.Subset.refl _) dom di hdi AP (qs.map pcOf) TS cP _ (by rw [List.length_map]) (by rw [pcOf_tx]; exact hTq) hPc (by omega) (by omega) hA78 ).mono ?_
        rintro e' w80 ⟨tv_, Z1, rfl, hZ, hA81⟩
        refine ⟨_, rfl, fun a hF => hK _ _ ?_⟩
        clear hK K
        replace hA81 : Hp w0 (Z1 :: [row b73 56 [lv, wv, .int .i64 held, .bool false]] :: YB :: XF :: XP :: (qs.map (roomS 5)).flatten :: [row b1 64 (PC wd di cn hg X Y (.slice PA l.length cp) (.slice pa ps.length pc))] :: [row gP 5 (cel cB (l ++ List.replicate 80 165))] :: []) w80 := hA81
        rw [← hTX] at hZ
        obtain ⟨_, A1, c1, rfl, _, hR1⟩ := hZ.rd (w0 := w0) (R := [Z1]) (List.mem_cons_self ..)
        refine vc_y hF rfl rfl (by decide) _ (y_assign rfl rfl) (fun a hF => ?_)
        refine vc_nil ?_
        refine hK29 _ _ ?_; clear  hK29 K29
        apply wp_seq_k; intro K30 hK30
        apply wp_seq_k; intro K31 hK31
        refine wp_region_planU 22 [6,14,20,22] [0,1,2,3,4,5,6,7,8,9,10,11,12,13,15,16,17,18,19,14,20,21,22] (fun x => Hq w0 (Z1 :: [row b73 56 [lv, wv, .int .i64 held, .bool false]] :: YB :: XF :: XP :: (qs.map (roomS 5)).flatten :: [row b1 64 (PC wd di cn hg X Y (.slice PA l.length cp) (.slice pa ps.length pc))] :: [row gP 5 (cel cB (l ++ List.replicate 80 165))] :: []) x) (by kernel_rfl) (by kernel_rfl) (Hq.drew (Hp.qp [Z1, [row b73 56 [lv, wv, .int .i64 held, .bool false]], YB, XF, XP, (qs.map (roomS 5)).flatten, [row b1 64 (PC wd di cn hg X Y (.slice PA l.length cp) (.slice pa ps.length pc))], [row gP 5 (cel cB (l ++ List.replicate 80 165))]] [] [0, 1, 2, 3, 4, 5, 6, 7] hA81)) ?_
        have hA82 := Hl.drew hA81
        refine vu_y hF rfl rfl rfl rfl (by decide) _ (fun x hx => y_move rfl rfl) (fun a hF => ?_)
        refine vu_y hF rfl rfl rfl rfl (by decide) _ (fun x hx => y_convStr (l := TX) rfl Tryd.underlying24 Tryd.underlying5 Tryd.underlying9 rfl rfl (hR1.bts (Hq.sub hx (sub1 ((List.mem_cons_self ..)))))) (fun a hF => ?_)
        refine vu_y hF rfl rfl rfl rfl (by decide) _ (fun x hx => y_field rfl Tryd.underlying64 rfl sz3_tl (by decide) rfl (rfl : (⟨_, 0 + _, none⟩ : Addr) = ⟨_, 1, none⟩)) (fun a hF => ?_)
        refine vu_y hF rfl rfl rfl rfl (by decide) _ (fun x hx => y_ld rfl hx rfl 6 rfl rfl nr3_tl) (fun a hF => ?_)
        refine vu_y hF rfl rfl rfl rfl (by decide) _ (fun x hx => y_field rfl Tryd.underlying64 rfl sz29_tl (by decide) rfl (rfl : (⟨_, 0 + _, none⟩ : Addr) = ⟨_, 69, none⟩)) (fun a hF => ?_)
        refine vu_y hF rfl rfl rfl rfl (by decide) _ (fun x hx => y_ld rfl hx rfl 6 rfl (pc_Q hX hY) nr29_tl) (fun a hF => ?_)
        refine vu_l rfl rfl rfl (fun K hK => ws_call hF rfl (by decide) cl50_tl rfl rfl ?_)
        with_reducible refine (tt_rtext w0 _ (Z1 :: [row b73 56 [lv, wv, .int .i64 held, .bool false]] :: YB :: XF :: XP :: (qs.map (roomS 5)).flatten :: [row b1 64 (PC wd di cn hg X Y (.slice PA l.length cp) (.slice pa ps.length pc))] :: [row gP 5 (cel cB (l ++ List.replicate 80 165))] :: []) _ (List.Subset.refl _) dom di hdi pa ps TS pc _ rfl hTS.symm (hP.mono (List.nil_subset _)) (by omega) (by omega) hA82 ).mono ?_
        rintro e' w83 ⟨A2, c2, Z2, rfl, hR2, hA84⟩
        refine ⟨_, rfl, fun a hF => hK _ _ (fun _ => ?_) ?_⟩
        · exact Hp.qp [Z2, Z1, [row b73 56 [lv, wv, .int .i64 held, .bool false]], YB, XF, XP, (qs.map (roomS 5)).flatten, [row b1 64 (PC wd di cn hg X Y (.slice PA l.length cp) (.slice pa ps.length pc))], [row gP 5 (cel cB (l ++ List.replicate 80 165))]] [] [1, 2, 3, 4, 5, 6, 7, 8] hA84
        clear hK K
        replace hA84 : Hp w0 (Z2 :: Z1 :: [row b73 56 [lv, wv, .int .i64 held, .bool false]] :: YB :: XF :: XP :: (qs.map (roomS 5)).flatten :: [row b1 64 (PC wd di cn hg X Y (.slice PA l.length cp) (.slice pa ps.length pc))] :: [row gP 5 (cel cB (l ++ List.replicate 80 165))] :: []) w83 := hA84
        rw [← hTX] at hR2 hF
        refine pu_up (S' := fun x => Hq w0 (Z2 :: Z1 :: [row b73 56 [lv, wv, .int .i64 held, .bool false]] :: YB :: XF :: XP :: (qs.map (roomS 5)).flatten :: [row b1 64 (PC wd di cn hg X Y (.slice PA l.length cp) (.slice pa ps.length pc))] :: [row gP 5 (cel cB (l ++ List.replicate 80 165))] :: []) x) (fun x hx => Hq.sub hx (picksub [Z2, Z1, [row b73 56 [lv, wv, .int .i64 held, .bool false]], YB, XF, XP, (qs.map (roomS 5)).flatten, [row b1 64 (PC wd di cn hg X Y (.slice PA l.length cp) (.slice pa ps.length pc))], [row gP 5 (cel cB (l ++ List.replicate 80 165))]] [] [1, 2, 3, 4, 5, 6, 7, 8])) hA84.q ?_
        refine vu_y hF rfl rfl rfl rfl (by decide) _ (fun x hx => y_convStr (l := TX) rfl Tryd.underlying24 Tryd.underlying5 Tryd.underlying9 rfl rfl (hR2.bts (Hq.sub hx (sub1 ((List.mem_cons_self ..)))))) (fun a hF => ?_)
        refine vu_y hF rfl rfl rfl rfl (by decide) _ (fun x hx => y_cmpS rfl rfl rfl rfl (strB_neq_f _)) (fun a hF => ?_)
        refine vu_y hF rfl rfl rfl rfl (by decide) _ (fun x hx => y_move rfl rfl) (fun a hF => ?_)
        refine vu_yg hF rfl rfl rfl rfl rfl rfl rfl (by decide) _ (fun x hx => y_move rfl rfl) (fun a hF => ?_)
        refine vu_yg hF rfl rfl rfl rfl rfl rfl rfl (by decide) _ (fun x hx => y_field rfl Tryd.underlying64 rfl sz3_tl (by decide) rfl (rfl : (⟨_, 0 + _, none⟩ : Addr) = ⟨_, 1, none⟩)) (fun a hF => ?_)
        refine vu_yg hF rfl rfl rfl rfl rfl rfl rfl (by decide) _ (fun x hx => y_ld rfl hx rfl 7 rfl rfl nr3_tl) (fun a hF => ?_)
        refine vu_yg hF rfl rfl rfl rfl rfl rfl rfl (by decide) _ (fun x hx => y_move rfl rfl) (fun a hF => ?_)
        refine vu_yg hF rfl rfl rfl rfl rfl rfl rfl (by decide) _ (fun x hx => y_move rfl rfl) (fun a hF => ?_)
        refine vu_yg hF rfl rfl rfl rfl rfl rfl rfl (by decide) _ (fun x hx => y_field rfl Tryd.underlying64 rfl sz3_tl (by decide) rfl (rfl : (⟨_, 0 + _, none⟩ : Addr) = ⟨_, 1, none⟩)) (fun a hF => ?_)
        refine vu_yg hF rfl rfl rfl rfl rfl rfl rfl (by decide) _ (fun x hx => y_ld rfl hx rfl 7 rfl rfl nr3_tl) (fun a hF => ?_)
        refine vu_yg hF rfl rfl rfl rfl rfl rfl rfl (by decide) _ (fun x hx => y_field rfl Tryd.underlying64 rfl sz29_tl (by decide) rfl (rfl : (⟨_, 0 + _, none⟩ : Addr) = ⟨_, 69, none⟩)) (fun a hF => ?_)
        refine vu_yg hF rfl rfl rfl rfl rfl rfl rfl (by decide) _ (fun x hx => y_ld rfl hx rfl 7 rfl (pc_Q hX hY) nr29_tl) (fun a hF => ?_)
        have hPc : PcS w0 (Z2 :: Z1 :: [row b73 56 [lv, wv, .int .i64 held, .bool false]] :: YB :: XF :: XP :: (qs.map (roomS 5)).flatten :: [row b1 64 (PC wd di cn hg X Y (.slice PA l.length cp) (.slice pa ps.length pc))] :: [row gP 5 (cel cB (l ++ List.replicate 80 165))] :: []) AP (qs.map pcOf) := by
          obtain ⟨_, _, e1, _, h1⟩ := hP1.rc (w0 := w0) (R := (Z2 :: Z1 :: [row b73 56 [lv, wv, .int .i64 held, .bool false]] :: YB :: XF :: XP :: (qs.map (roomS 5)).flatten :: [row b1 64 (PC wd di cn hg X Y (.slice PA l.length cp) (.slice pa ps.length pc))] :: [row gP 5 (cel cB (l ++ List.replicate 80 165))] :: [])) (List.mem_cons_of_mem _ (List.mem_cons_of_mem _ (List.mem_cons_of_mem _ (List.mem_cons_of_mem _ (List.mem_cons_of_mem _ ((List.mem_cons_self ..)))))))
          injection e1 with e1 _ _
          subst e1
          exact pcs_of (e := 5) h1 (List.mem_cons_of_mem _ (List.mem_cons_of_mem _ (List.mem_cons_of_mem _ (List.mem_cons_of_mem _ (List.mem_cons_of_mem _ (List.mem_cons_of_mem _ ((List.mem_cons_self ..))))))))
        refine vu_lg hF rfl rfl rfl rfl rfl rfl (fun K hK => ws_call hF rfl (by decide) cl51_tl rfl rfl ?_)
        with_reducible refine (tt_of w0 _ (Z2 :: Z1 :: [row b73 56 [lv, wv, .int .i64 held, .bool false]] :: YB :: XF :: XP :: (qs.map (roomS 5)).flatten :: [row b1 64 (PC wd di cn hg X Y (.slice PA l.length cp) (.slice pa ps.length pc))] :: [row gP 5 (cel cB (l ++ List.replicate 80 165))] :: []) _ (List.Subset.refl _) wd dom di hdi AP (qs.map pcOf) TS cP _ (by rw [List.length_map]) (by rw [pcOf_tx]; exact hTq) hPc (by omega) (by omega) hT hA84 ).mono ?_
        rintro e' w85 ⟨rfl, hA86⟩
        refine ⟨_, rfl, fun a hF => hK _ _ (fun _ => ?_) ?_⟩
        · exact Hp.qp [Z2, Z1, [row b73 56 [lv, wv, .int .i64 held, .bool false]], YB, XF, XP, (qs.map (roomS 5)).flatten, [row b1 64 (PC wd di cn hg X Y (.slice PA l.length cp) (.slice pa ps.length pc))], [row gP 5 (cel cB (l ++ List.replicate 80 165))]] [] [0, 1, 2, 3, 4, 5, 6, 7, 8] hA86
        clear hK K
        replace hA86 : Hp w0 (Z2 :: Z1 :: [row b73 56 [lv, wv, .int .i64 held, .bool false]] :: YB :: XF :: XP :: (qs.map (roomS 5)).flatten :: [row b1 64 (PC wd di cn hg X Y (.slice PA l.length cp) (.slice pa ps.length pc))] :: [row gP 5 (cel cB (l ++ List.replicate 80 165))] :: []) w85 := hA86
        refine vu_lg hF rfl rfl rfl rfl rfl rfl (fun K hK => ws_call hF rfl (by decide) cl52_tl rfl rfl ?_)
        with_reducible refine (tt_rof w0 _ (Z2 :: Z1 :: [row b73 56 [lv, wv, .int .i64 held, .bool false]] :: YB :: XF :: XP :: (qs.map (roomS 5)).flatten :: [row b1 64 (PC wd di cn hg X Y (.slice PA l.length cp) (.slice pa ps.length pc))] :: [row gP 5 (cel cB (l ++ List.replicate 80 165))] :: []) _ (List.Subset.refl _) wd dom di hdi pa ps TS pc _ rfl hTS.symm (hP.mono (List.nil_subset _)) (by omega) (by omega) hA86 ).mono ?_
        rintro e' w87 ⟨rfl, hA88⟩
        refine ⟨_, rfl, fun a hF => hK _ _ (fun _ => ?_) ?_⟩
        · exact Hp.qp [Z2, Z1, [row b73 56 [lv, wv, .int .i64 held, .bool false]], YB, XF, XP, (qs.map (roomS 5)).flatten, [row b1 64 (PC wd di cn hg X Y (.slice PA l.length cp) (.slice pa ps.length pc))], [row gP 5 (cel cB (l ++ List.replicate 80 165))]] [] [0, 1, 2, 3, 4, 5, 6, 7, 8] hA88
        clear hK K
        replace hA88 : Hp w0 (Z2 :: Z1 :: [row b73 56 [lv, wv, .int .i64 held, .bool false]] :: YB :: XF :: XP :: (qs.map (roomS 5)).flatten :: [row b1 64 (PC wd di cn hg X Y (.slice PA l.length cp) (.slice pa ps.length pc))] :: [row gP 5 (cel cB (l ++ List.replicate 80 165))] :: []) w87 := hA88
        refine vu_yg hF rfl rfl rfl rfl rfl rfl rfl (by decide) _ (fun x hx => y_neB (c := false) rfl Tryd.underlying36 Tryd.underlying5 sz5_tl (by kernel_rfl) rfl rfl (ofL_length _ _ _) (ofL_length _ _ _) (by simp)) (fun a hF => ?_)
        refine vu_ly hF rfl rfl rfl rfl (by decide) _ (y_pick rfl rfl rfl) (fun h => absurd h (by decide)) (fun a hF => ?_)
        refine pu_end ?_
        refine hK31 _ _ ?_; clear  hK31 K31
        refine vc_false hF rfl ?_
        apply wp_skip
        refine hK30 _ _ ?_; clear  hK30 K30
        refine wp_region_lit ?_
        refine vc_y hF rfl rfl (by decide) _ (y_move rfl rfl) (fun a hF => ?_)
        refine vc_y hF rfl rfl (by decide) _ (y_move rfl rfl) (fun a hF => ?_)
        have hA89 : Hp w0 (Z1 :: [row b73 56 [lv, wv, .int .i64 held, .bool false]] :: YB :: Z2 :: XF :: XP :: (qs.map (roomS 5)).flatten :: [row b1 64 (PC wd di cn hg X Y (.slice PA l.length cp) (.slice pa ps.length pc))] :: [row gP 5 (cel cB (l ++ List.replicate 80 165))] :: []) w87 := Hp.ord [Z2, Z1, [row b73 56 [lv, wv, .int .i64 held, .bool false]], YB, XF, XP, (qs.map (roomS 5)).flatten, [row b1 64 (PC wd di cn hg X Y (.slice PA l.length cp) (.slice pa ps.length pc))], [row gP 5 (cel cB (l ++ List.replicate 80 165))]] [] [1, 2, 3, 0, 4, 5, 6, 7, 8] hA88 rfl
        refine vc_op rfl (fun K hK => ws_call hF rfl (by decide) cl30_tl rfl rfl ?_)
        with_reducible refine (kb_keep_byte w0 _ _ b73 ks YB Z1 _ TX hB3 (by rw [← cel_dc]; exact hZ) (fun _ _ => rfl) (by omega) (cl_keepB (by omega)) hA89 ).mono ?_
        rintro e' w90 ⟨ks2, lv2, wv2, held2, YB2, rfl, hB4, _, hA91⟩
        refine ⟨_, rfl, fun a hF => hK _ _ ?_⟩
        clear hK K
        replace hA91 : Hp w0 ([row b73 56 [lv2, wv2, .int .i64 held2, .bool false]] :: YB2 :: Z2 :: XF :: XP :: (qs.map (roomS 5)).flatten :: [row b1 64 (PC wd di cn hg X Y (.slice PA l.length cp) (.slice pa ps.length pc))] :: [row gP 5 (cel cB (l ++ List.replicate 80 165))] :: []) w90 := hA91
        refine vc_nil ?_
        refine hK28 _ _ ?_; clear  hK28 K28
        refine wp_region_lit ?_
        refine vc_y hF rfl rfl (by decide) _ (y_move rfl rfl) (fun a hF => ?_)
        refine vc_y hF rfl rfl (by decide) _ (y_add rfl rfl rfl (IntWalk.i64_in _ (by omega))) (fun a hF => ?_)
        refine vc_y hF rfl rfl (by decide) _ (y_assign rfl rfl) (fun a hF => ?_)
        refine vc_nil ?_
        have hA92 : Hp w0 ([row b73 56 [lv2, wv2, .int .i64 held2, .bool false]] :: YB2 :: XF :: XP :: (qs.map (roomS 5)).flatten :: [row b1 64 (PC wd di cn hg X Y (.slice PA l.length cp) (.slice pa ps.length pc))] :: [row gP 5 (cel cB (l ++ List.replicate 80 165))] :: []) w90 := Hp.sel [[row b73 56 [lv2, wv2, .int .i64 held2, .bool false]], YB2, Z2, XF, XP, (qs.map (roomS 5)).flatten, [row b1 64 (PC wd di cn hg X Y (.slice PA l.length cp) (.slice pa ps.length pc))], [row gP 5 (cel cB (l ++ List.replicate 80 165))]] [] [0, 1, 3, 4, 5, 6, 7] [2] hA91 rfl
        exact ⟨i + 1, by omega, ks2, lv2, wv2, held2, YB2, by omega, hB4, hF.keep [12, 1, 3, 4, 6, 7, 8, 11] rfl, hA92⟩
      · refine vc_falseB hF rfl (lss_f (by omega)) ?_
        apply wp_exit
        refine hK24 _ _ ?_; clear hK26 K26 hK24 K24
        apply wp_seq_k; intro K32 hK32
        refine wp_region_lit ?_
        refine vc_y hF rfl rfl (by decide) _ (y_assign rfl rfl) (fun a hF => ?_)
        refine vc_nil ?_
        refine hK32 _ _ ?_; clear  hK32 K32
        apply wp_seq_k; intro K33 hK33
        apply wp_seq_k; intro K34 hK34
        refine wp_region_lit ?_
        refine vc_y hF rfl rfl (by decide) _ (y_assign rfl rfl) (fun a hF => ?_)
        refine vc_nil ?_
        refine hK34 _ _ ?_; clear  hK34 K34
        apply wp_block
        have hA93 : Hp w0 ([row b73 56 [lv, wv, .int .i64 held, .bool false]] :: YB :: XF :: XP :: (((qs.drop 0).map (roomS 5)).flatten) :: [row b1 64 (PC wd di cn hg X Y (.slice PA l.length cp) (.slice pa ps.length pc))] :: [row gP 5 (cel cB (l ++ List.replicate 80 165))] :: []) w79 := hA78
        have hA94 : Hp w0 ((((qs.take 0).map flS).flatten) :: [row b73 56 [lv, wv, .int .i64 held, .bool false]] :: YB :: XF :: XP :: (((qs.drop 0).map (roomS 5)).flatten) :: [row b1 64 (PC wd di cn hg X Y (.slice PA l.length cp) (.slice pa ps.length pc))] :: [row gP 5 (cel cB (l ++ List.replicate 80 165))] :: []) w79 := Hp.nil hA93
        have hA95 : Hp w0 (([] : Seg) :: (((qs.take 0).map flS).flatten) :: [row b73 56 [lv, wv, .int .i64 held, .bool false]] :: YB :: XF :: XP :: (((qs.drop 0).map (roomS 5)).flatten) :: [row b1 64 (PC wd di cn hg X Y (.slice PA l.length cp) (.slice pa ps.length pc))] :: [row gP 5 (cel cB (l ++ List.replicate 80 165))] :: []) w79 := Hp.nil hA94
        have hA96 : Hp w0 (([] : Seg) :: ([] : Seg) :: (((qs.take 0).map flS).flatten) :: [row b73 56 [lv, wv, .int .i64 held, .bool false]] :: YB :: XF :: XP :: (((qs.drop 0).map (roomS 5)).flatten) :: [row b1 64 (PC wd di cn hg X Y (.slice PA l.length cp) (.slice pa ps.length pc))] :: [row gP 5 (cel cB (l ++ List.replicate 80 165))] :: []) w79 := Hp.nil hA95
        have hA97 : Hp w0 ([row b73 56 [lv, wv, .int .i64 held, .bool false]] :: YB :: XF :: XP :: (((qs.take 0).map flS).flatten) :: (((qs.drop 0).map (roomS 5)).flatten) :: ([] : Seg) :: ([] : Seg) :: [row b1 64 (PC wd di cn hg X Y (.slice PA l.length cp) (.slice pa ps.length pc))] :: [row gP 5 (cel cB (l ++ List.replicate 80 165))] :: []) w79 := Hp.ord [([] : Seg), ([] : Seg), (((qs.take 0).map flS).flatten), [row b73 56 [lv, wv, .int .i64 held, .bool false]], YB, XF, XP, (((qs.drop 0).map (roomS 5)).flatten), [row b1 64 (PC wd di cn hg X Y (.slice PA l.length cp) (.slice pa ps.length pc))], [row gP 5 (cel cB (l ++ List.replicate 80 165))]] [] [3, 4, 5, 6, 2, 7, 1, 0, 8, 9] hA96 rfl
        refine vc_loop (G := Nat) (fun i a x => ∃ (us : List Piece) (lsv : Value) (XL : Seg) (ZL : Seg), i ≤ qs.length ∧ us.length = i ∧ us.map (·.2.2) = (TS.take i).map (·.map flip) ∧ (∀ p ∈ us, p.2.2.length ≤ p.2.1 ∧ Rd w0 [ZL] p.1 p.2.2) ∧ Buf 24 1 XL lsv us.length (us.map pieceV) ∧ Fr 299 [(15, .int .i64 (i : Int)), (14, lsv), (1, .pointer (some ⟨b1, 0, none⟩)), (3, .slice (some ⟨gP, 0, none⟩) (l.length + 80) (l.length + 80)), (4, .slice (some ⟨gP, 0, none⟩) l.length (l.length + 80)), (6, .int .i64 wd), (7, .slice AF qs.length cF), (8, .slice AP qs.length cP), (11, .pointer (some ⟨b73, 0, none⟩))] a ∧ Hp w0 ([row b73 56 [lv, wv, .int .i64 held, .bool false]] :: YB :: XF :: XP :: (((qs.take i).map flS).flatten) :: (((qs.drop i).map (roomS 5)).flatten) :: XL :: ZL :: [row b1 64 (PC wd di cn hg X Y (.slice PA l.length cp) (.slice pa ps.length pc))] :: [row gP 5 (cel cB (l ++ List.replicate 80 165))] :: []) x) (fun i => qs.length - i) 0 (⟨[], _, [], [], Nat.zero_le _, rfl, rfl, (fun p h => pc_nil h), Buf.nil _ _, hF.keep [15, 14, 1, 3, 4, 6, 7, 8, 11] rfl, hA97⟩) ?_
        clear hF
        rintro i a w99 ⟨us, lsv, XL, ZL, hi4, hul, hus, hup, hL, hF, hA98⟩
        apply wp_seq_k; intro K35 hK35
        apply wp_seq_k; intro K36 hK36
        refine wp_region_lit ?_
        refine vc_y hF rfl rfl (by decide) _ (y_move rfl rfl) (fun a hF => ?_)
        refine vc_y hF rfl rfl (by decide) _ (y_move rfl rfl) (fun a hF => ?_)
        refine vc_y hF rfl rfl (by decide) _ (y_lenSl rfl Tryd.underlying29 rfl rfl) (fun a hF => ?_)
        refine vc_y hF rfl rfl (by decide) _ (y_cmp rfl rfl rfl rfl rfl) (fun a hF => ?_)
        refine vc_nil ?_
        refine hK36 _ _ ?_; clear  hK36 K36
        by_cases hltq : i < qs.length
        · refine vc_trueB hF rfl (lss_t (by omega)) ?_
          have hFn := hF
          have hlt : i < ps.length := by omega
          obtain ⟨⟨g, l1⟩, hq⟩ : ∃ q, qs[i]? = some q := ⟨_, List.getElem?_eq_getElem hltq⟩
          have hdr : qs.drop i = (g, l1) :: qs.drop (i + 1) := by
            rw [List.drop_eq_getElem_cons hltq]
            rw [List.getElem?_eq_getElem hltq] at hq
            injection hq with hq
            rw [hq]
          have hl1 : l1.length < 140737488351300 := hql _ (List.mem_of_getElem? hq)
          obtain ⟨_, _, eF, _, hF2⟩ := hF1.rc (w0 := w0) (R := [XF]) (List.mem_cons_self ..)
          injection eF with eF _ _
          subst eF
          obtain ⟨bF, pF, rfl, hcF⟩ := hF2.ne (i := i) (by rw [List.length_map]; exact hltq)
          obtain ⟨⟨A0, c0, l0⟩, hp⟩ : ∃ q, ps[i]? = some q := ⟨_, List.getElem?_eq_getElem hlt⟩
          obtain rfl : l1 = l0 := by
            have h1 := congrArg (fun L => L[i]?) hqs
            simp only [List.getElem?_map, hq, hp, Option.map_some, Option.some.injEq] at h1
            exact h1
          obtain ⟨hc0, hR0⟩ := hP.2 _ (List.mem_of_getElem? hp)
          obtain ⟨b1p, p1p, rfl, hc⟩ := hP.1.ne (i := i) (by rw [List.length_map]; exact hlt)
          obtain ⟨_, _, eP, _, hP2⟩ := hP1.rc (w0 := w0) (R := [XP]) (List.mem_cons_self ..)
          injection eP with eP _ _
          subst eP
          obtain ⟨bP, pP, rfl, hcP⟩ := hP2.ne (i := i) (by rw [List.length_map]; exact hltq)
          have htk : qs.take (i + 1) = qs.take i ++ [(g, l1)] := by rw [List.take_add_one, hq]; rfl
          have hTSi : TS[i]? = some l1 := by rw [← hTq, List.getElem?_map, hq]; rfl
          have hTk : TS.take (i + 1) = TS.take i ++ [l1] := by rw [List.take_add_one, hTSi]; rfl
          have hu2 : us.length < 2147483648 := by omega
          have hF := hFn
          have hA100 : Hp w0 ((((qs.drop i).map (roomS 5)).flatten) :: [row b73 56 [lv, wv, .int .i64 held, .bool false]] :: YB :: XF :: XP :: (((qs.take i).map flS).flatten) :: XL :: ZL :: [row b1 64 (PC wd di cn hg X Y (.slice PA l.length cp) (.slice (some ⟨b1p, p1p, none⟩) ps.length pc))] :: [row gP 5 (cel cB (l ++ List.replicate 80 165))] :: []) w99 := Hp.ord [[row b73 56 [lv, wv, .int .i64 held, .bool false]], YB, XF, XP, (((qs.take i).map flS).flatten), (((qs.drop i).map (roomS 5)).flatten), XL, ZL, [row b1 64 (PC wd di cn hg X Y (.slice PA l.length cp) (.slice (some ⟨b1p, p1p, none⟩) ps.length pc))], [row gP 5 (cel cB (l ++ List.replicate 80 165))]] [] [5, 0, 1, 2, 3, 4, 6, 7, 8, 9] hA98 rfl
          have hA101 : Hp w0 ([row g 5 (cel cB (l1 ++ List.replicate 80 165))] :: (((qs.drop (i + 1)).map (roomS 5)).flatten) :: [row b73 56 [lv, wv, .int .i64 held, .bool false]] :: YB :: XF :: XP :: (((qs.take i).map flS).flatten) :: XL :: ZL :: [row b1 64 (PC wd di cn hg X Y (.slice PA l.length cp) (.slice (some ⟨b1p, p1p, none⟩) ps.length pc))] :: [row gP 5 (cel cB (l ++ List.replicate 80 165))] :: []) w99 := hA100.cast (by rw [hdr]; simp [roomS])
          apply wp_skip
          refine hK35 _ _ ?_; clear  hK35 K35
          apply wp_seq_k; intro K37 hK37
          apply wp_block
          apply wp_seq_k; intro K38 hK38
          apply wp_seq_k; intro K39 hK39
          refine wp_region_plan 24 [9,24] [0,1,2,3,4,5,6,7,8,9,10,11,12,13,14,15,16,17,18,19,20,21,22,23,24] (fun x => Hq w0 ([row g 5 (cel cB (l1 ++ List.replicate 80 165))] :: (((qs.drop (i + 1)).map (roomS 5)).flatten) :: [row b73 56 [lv, wv, .int .i64 held, .bool false]] :: YB :: XF :: XP :: (((qs.take i).map flS).flatten) :: XL :: ZL :: [row b1 64 (PC wd di cn hg X Y (.slice PA l.length cp) (.slice (some ⟨b1p, p1p, none⟩) ps.length pc))] :: [row gP 5 (cel cB (l ++ List.replicate 80 165))] :: []) x) (by kernel_rfl) (by kernel_rfl) (Hq.drew (Hp.qp [[row g 5 (cel cB (l1 ++ List.replicate 80 165))], (((qs.drop (i + 1)).map (roomS 5)).flatten), [row b73 56 [lv, wv, .int .i64 held, .bool false]], YB, XF, XP, (((qs.take i).map flS).flatten), XL, ZL, [row b1 64 (PC wd di cn hg X Y (.slice PA l.length cp) (.slice (some ⟨b1p, p1p, none⟩) ps.length pc))], [row gP 5 (cel cB (l ++ List.replicate 80 165))]] [] [0, 1, 2, 3, 4, 5, 6, 7, 8, 9, 10] hA101)) ?_
          have hA102 := Hl.drew hA101
          refine vp_y hF rfl rfl rfl rfl (by decide) _ (fun x hx => y_move rfl rfl) (fun a hF => ?_)
          refine vp_y hF rfl rfl rfl rfl (by decide) _ (fun x hx => y_move rfl rfl) (fun a hF => ?_)
          refine vp_y hF rfl rfl rfl rfl (by decide) _ (fun x hx => y_ixSl rfl Tryd.underlying29 sz24_tl rfl rfl i rfl hltq (ad2 _ _ _)) (fun a hF => ?_)
          refine vp_y hF rfl rfl rfl rfl (by decide) _ (fun x hx => y_ldC (u := .slice (some ⟨g, 0, none⟩) (l1.length + 80) (l1.length + 80)) rfl (Hq.sub hx (sub1 (List.mem_cons_of_mem _ (List.mem_cons_of_mem _ (List.mem_cons_of_mem _ (List.mem_cons_of_mem _ ((List.mem_cons_self ..)))))))) rfl hcF i (by rw [List.length_map]; exact hltq) rfl (by rw [List.getElem?_map, hq]; rfl) nr24_tl) (fun a hF => ?_)
          refine vp_y hF rfl rfl rfl rfl (by decide) _ (fun x hx => y_field rfl Tryd.underlying64 rfl sz29_tl (by decide) rfl (rfl : (⟨_, 0 + _, none⟩ : Addr) = ⟨_, 69, none⟩)) (fun a hF => ?_)
          refine vp_y hF rfl rfl rfl rfl (by decide) _ (fun x hx => y_ld rfl hx rfl 9 rfl (pc_Q hX hY) nr29_tl) (fun a hF => ?_)
          refine vp_y hF rfl rfl rfl rfl (by decide) _ (fun x hx => y_move rfl rfl) (fun a hF => ?_)
          refine vp_y hF rfl rfl rfl rfl (by decide) _ (fun x hx => y_ixSl rfl Tryd.underlying29 sz24_tl rfl rfl i rfl hlt (ad2 _ _ _)) (fun a hF => ?_)
          refine vp_y hF rfl rfl rfl rfl (by decide) _ (fun x hx => y_ldC (u := .slice A0 l1.length c0) rfl (Hq.sub hx (List.nil_subset _)) rfl hc i (by rw [List.length_map]; exact hlt) rfl (by rw [List.getElem?_map, hp]; rfl) nr24_tl) (fun a hF => ?_)
          refine vp_l rfl rfl rfl (fun K hK => ws_call hF rfl (by decide) cl22_tl rfl rfl ?_)
          with_reducible refine (cl_intactB w0 _ ([row g 5 (cel cB (l1 ++ List.replicate 80 165))] :: (((qs.drop (i + 1)).map (roomS 5)).flatten) :: [row b73 56 [lv, wv, .int .i64 held, .bool false]] :: YB :: XF :: XP :: (((qs.take i).map flS).flatten) :: XL :: ZL :: [row b1 64 (PC wd di cn hg X Y (.slice PA l.length cp) (.slice (some ⟨b1p, p1p, none⟩) ps.length pc))] :: [row gP 5 (cel cB (l ++ List.replicate 80 165))] :: []) (some ⟨g, 0, none⟩) A0 l1 (l1.length + 80) c0 (Rc.ofRow (i := 0) (off := 0) rfl (by rw [List.drop_zero, List.take_length])) (hR0.mono (List.nil_subset _)) (Nat.le_refl _) hA102 (by omega) ).mono ?_
          rintro e' w103 ⟨rfl, hA104⟩
          refine ⟨_, rfl, fun a hF => hK _ _ (fun _ => ?_) ?_⟩
          · exact Hp.qp [[row g 5 (cel cB (l1 ++ List.replicate 80 165))], (((qs.drop (i + 1)).map (roomS 5)).flatten), [row b73 56 [lv, wv, .int .i64 held, .bool false]], YB, XF, XP, (((qs.take i).map flS).flatten), XL, ZL, [row b1 64 (PC wd di cn hg X Y (.slice PA l.length cp) (.slice (some ⟨b1p, p1p, none⟩) ps.length pc))], [row gP 5 (cel cB (l ++ List.replicate 80 165))]] [] [0, 1, 2, 3, 4, 5, 6, 7, 8, 9, 10] hA104
          clear hK K
          replace hA104 : Hp w0 ([row g 5 (cel cB (l1 ++ List.replicate 80 165))] :: (((qs.drop (i + 1)).map (roomS 5)).flatten) :: [row b73 56 [lv, wv, .int .i64 held, .bool false]] :: YB :: XF :: XP :: (((qs.take i).map flS).flatten) :: XL :: ZL :: [row b1 64 (PC wd di cn hg X Y (.slice PA l.length cp) (.slice (some ⟨b1p, p1p, none⟩) ps.length pc))] :: [row gP 5 (cel cB (l ++ List.replicate 80 165))] :: []) w103 := hA104
          refine vp_y hF rfl rfl rfl rfl (by decide) _ (fun x hx => y_not rfl rfl rfl) (fun a hF => ?_)
          refine vp_y hF rfl rfl rfl rfl (by decide) _ (fun x hx => y_move rfl rfl) (fun a hF => ?_)
          refine vp_yg hF rfl rfl rfl rfl rfl rfl rfl (by decide) _ (fun x hx => y_move rfl rfl) (fun a hF => ?_)
          refine vp_yg hF rfl rfl rfl rfl rfl rfl rfl (by decide) _ (fun x hx => y_move rfl rfl) (fun a hF => ?_)
          refine vp_yg hF rfl rfl rfl rfl rfl rfl rfl (by decide) _ (fun x hx => y_ixSl rfl Tryd.underlying29 sz24_tl rfl rfl i rfl hltq (ad2 _ _ _)) (fun a hF => ?_)
          refine vp_yg hF rfl rfl rfl rfl rfl rfl rfl (by decide) _ (fun x hx => y_ldC (u := .slice (some ⟨g, 0, none⟩) l1.length (l1.length + 80)) rfl (Hq.sub hx (sub1 (List.mem_cons_of_mem _ (List.mem_cons_of_mem _ (List.mem_cons_of_mem _ (List.mem_cons_of_mem _ (List.mem_cons_of_mem _ ((List.mem_cons_self ..))))))))) rfl hcP i (by rw [List.length_map]; exact hltq) rfl (by rw [List.getElem?_map, hq]; rfl) nr24_tl) (fun a hF => ?_)
          refine vp_yg hF rfl rfl rfl rfl rfl rfl rfl (by decide) _ (fun x hx => y_lenSl rfl Tryd.underlying24 rfl rfl) (fun a hF => ?_)
          refine vp_yg hF rfl rfl rfl rfl rfl rfl rfl (by decide) _ (fun x hx => y_field rfl Tryd.underlying64 rfl sz29_tl (by decide) rfl (rfl : (⟨_, 0 + _, none⟩ : Addr) = ⟨_, 69, none⟩)) (fun a hF => ?_)
          refine vp_yg hF rfl rfl rfl rfl rfl rfl rfl (by decide) _ (fun x hx => y_ld rfl hx rfl 9 rfl (pc_Q hX hY) nr29_tl) (fun a hF => ?_)
          refine vp_yg hF rfl rfl rfl rfl rfl rfl rfl (by decide) _ (fun x hx => y_move rfl rfl) (fun a hF => ?_)
          refine vp_yg hF rfl rfl rfl rfl rfl rfl rfl (by decide) _ (fun x hx => y_ixSl rfl Tryd.underlying29 sz24_tl rfl rfl i rfl hlt (ad2 _ _ _)) (fun a hF => ?_)
          refine vp_yg hF rfl rfl rfl rfl rfl rfl rfl (by decide) _ (fun x hx => y_ldC (u := .slice A0 l1.length c0) rfl (Hq.sub hx (List.nil_subset _)) rfl hc i (by rw [List.length_map]; exact hlt) rfl (by rw [List.getElem?_map, hp]; rfl) nr24_tl) (fun a hF => ?_)
          refine vp_yg hF rfl rfl rfl rfl rfl rfl rfl (by decide) _ (fun x hx => y_lenSl rfl Tryd.underlying24 rfl rfl) (fun a hF => ?_)
          refine vp_yg hF rfl rfl rfl rfl rfl rfl rfl (by decide) _ (fun x hx => y_cmp rfl rfl rfl rfl (neq_f (by omega))) (fun a hF => ?_)
          refine vp_ly hF rfl rfl rfl rfl (by decide) _ (y_pick rfl rfl rfl) (fun h => absurd h (by decide)) (fun a hF => ?_)
          refine plan_end ?_
          refine hK39 _ _ ?_; clear  hK39 K39
          refine vc_false hF rfl ?_
          have hA105 : Hp w0 ([row g 5 (dc l1 ++ dc (List.replicate 80 165))] :: (((qs.drop (i + 1)).map (roomS 5)).flatten) :: [row b73 56 [lv, wv, .int .i64 held, .bool false]] :: YB :: XF :: XP :: (((qs.take i).map flS).flatten) :: XL :: ZL :: [row b1 64 (PC wd di cn hg X Y (.slice PA l.length cp) (.slice (some ⟨b1p, p1p, none⟩) ps.length pc))] :: [row gP 5 (cel cB (l ++ List.replicate 80 165))] :: []) w103 := by rw [← dc_append, cel_dc]; exact hA104
          apply wp_skip
          refine hK38 _ _ ?_; clear  hK38 K38
          refine wp_region_lit ?_
          refine vc_y hF rfl rfl (by decide) _ (y_move rfl rfl) (fun a hF => ?_)
          refine vc_y hF rfl rfl (by decide) _ (y_move rfl rfl) (fun a hF => ?_)
          refine vc_y hF rfl rfl (by decide) _ (y_move rfl rfl) (fun a hF => ?_)
          refine vc_y hF rfl rfl (by decide) _ (y_ixSl rfl Tryd.underlying29 sz24_tl rfl rfl i rfl hltq (ad2 _ _ _)) (fun a hF => ?_)
          refine vc_y hF rfl rfl (by decide) _ (y_ldC (u := .slice (some ⟨g, 0, none⟩) l1.length (l1.length + 80)) rfl (Hq.sub hA105.q (sub1 (List.mem_cons_of_mem _ (List.mem_cons_of_mem _ (List.mem_cons_of_mem _ (List.mem_cons_of_mem _ (List.mem_cons_of_mem _ ((List.mem_cons_self ..))))))))) rfl hcP i (by rw [List.length_map]; exact hltq) rfl (by rw [List.getElem?_map, hq]; rfl) nr24_tl) (fun a hF => ?_)
          refine vc_op rfl (fun K hK => ws_call hF rfl (by decide) cl27_tl rfl rfl ?_)
          with_reducible refine (cs_turnedN w0 _ ((((qs.drop (i + 1)).map (roomS 5)).flatten) :: [row b73 56 [lv, wv, .int .i64 held, .bool false]] :: YB :: XF :: XP :: (((qs.take i).map flS).flatten) :: XL :: ZL :: [row b1 64 (PC wd di cn hg X Y (.slice PA l.length cp) (.slice (some ⟨b1p, p1p, none⟩) ps.length pc))] :: [row gP 5 (cel cB (l ++ List.replicate 80 165))] :: []) g l1 (l1.length + 80) (by omega) hA105 ).mono ?_
          rintro e' w106 ⟨An, cn_, Zn, rfl, hcn, hRn, hA107⟩
          refine ⟨_, rfl, fun a hF => hK _ _ ?_⟩
          clear hK K
          replace hA107 : Hp w0 ([row g 5 (dc (l1.map flip) ++ dc (List.replicate 80 165))] :: Zn :: (((qs.drop (i + 1)).map (roomS 5)).flatten) :: [row b73 56 [lv, wv, .int .i64 held, .bool false]] :: YB :: XF :: XP :: (((qs.take i).map flS).flatten) :: XL :: ZL :: [row b1 64 (PC wd di cn hg X Y (.slice PA l.length cp) (.slice (some ⟨b1p, p1p, none⟩) ps.length pc))] :: [row gP 5 (cel cB (l ++ List.replicate 80 165))] :: []) w106 := hA107
          refine vc_op rfl (fun K hK => hs_bs1 (u1 := .slice An l1.length cn_) hF rfl (by decide) rfl hA107 rfl (cl_bsS _ _ _) (fun b108 w109 a hb108 hF hA110 => hK _ _ ?_))
          clear hK K
          replace hA110 : Hp w0 ([row b108 24 [.slice An l1.length cn_]] :: [row g 5 (dc (l1.map flip) ++ dc (List.replicate 80 165))] :: Zn :: (((qs.drop (i + 1)).map (roomS 5)).flatten) :: [row b73 56 [lv, wv, .int .i64 held, .bool false]] :: YB :: XF :: XP :: (((qs.take i).map flS).flatten) :: XL :: ZL :: [row b1 64 (PC wd di cn hg X Y (.slice PA l.length cp) (.slice (some ⟨b1p, p1p, none⟩) ps.length pc))] :: [row gP 5 (cel cB (l ++ List.replicate 80 165))] :: []) w109 := hA110
          refine vc_op rfl (fun K hK => hs_append hF rfl (by decide) rfl hA110 9 rfl hL Tryd.underlying29 cl_elemT rfl rfl (Rc.srcC (W := [.slice An l1.length cn_]) (m := 1) (size := 1) (R := [row b108 24 [.slice An l1.length cn_]] :: [row g 5 (dc (l1.map flip) ++ dc (List.replicate 80 165))] :: Zn :: (((qs.drop (i + 1)).map (roomS 5)).flatten) :: [row b73 56 [lv, wv, .int .i64 held, .bool false]] :: YB :: XF :: XP :: (((qs.take i).map flS).flatten) :: XL :: ZL :: [row b1 64 (PC wd di cn hg X Y (.slice PA l.length cp) (.slice (some ⟨b1p, p1p, none⟩) ps.length pc))] :: [row gP 5 (cel cB (l ++ List.replicate 80 165))] :: []) (Rc.ofRow (i := 0) (off := 0) rfl rfl) hA110.q Tryd.underlying29 (by decide) rfl (by simp [Value.oneCell'])) (tl_grow hu2) (by decide) (fun lsv2 XL2 w111 a hL2 hF hA112 => hK _ _ ?_))
          clear hK K
          replace hA112 : Hp w0 ([row b108 24 [.slice An l1.length cn_]] :: [row g 5 (dc (l1.map flip) ++ dc (List.replicate 80 165))] :: Zn :: (((qs.drop (i + 1)).map (roomS 5)).flatten) :: [row b73 56 [lv, wv, .int .i64 held, .bool false]] :: YB :: XF :: XP :: (((qs.take i).map flS).flatten) :: XL2 :: ZL :: [row b1 64 (PC wd di cn hg X Y (.slice PA l.length cp) (.slice (some ⟨b1p, p1p, none⟩) ps.length pc))] :: [row gP 5 (cel cB (l ++ List.replicate 80 165))] :: []) w111 := hA112
          refine vc_y hF rfl rfl (by decide) _ (y_assign rfl rfl) (fun a hF => ?_)
          refine vc_nil ?_
          refine hK37 _ _ ?_; clear  hK37 K37
          refine wp_region_lit ?_
          refine vc_y hF rfl rfl (by decide) _ (y_move rfl rfl) (fun a hF => ?_)
          refine vc_y hF rfl rfl (by decide) _ (y_add rfl rfl rfl (IntWalk.i64_in _ (by omega))) (fun a hF => ?_)
          refine vc_y hF rfl rfl (by decide) _ (y_assign rfl rfl) (fun a hF => ?_)
          refine vc_nil ?_
          have hA113 : Hp w0 ([row b73 56 [lv, wv, .int .i64 held, .bool false]] :: YB :: XF :: XP :: (((qs.take i).map flS).flatten) :: [row g 5 (dc (l1.map flip) ++ dc (List.replicate 80 165))] :: (((qs.drop (i + 1)).map (roomS 5)).flatten) :: XL2 :: ZL :: Zn :: [row b1 64 (PC wd di cn hg X Y (.slice PA l.length cp) (.slice (some ⟨b1p, p1p, none⟩) ps.length pc))] :: [row gP 5 (cel cB (l ++ List.replicate 80 165))] :: []) w111 := Hp.sel [[row b108 24 [.slice An l1.length cn_]], [row g 5 (dc (l1.map flip) ++ dc (List.replicate 80 165))], Zn, (((qs.drop (i + 1)).map (roomS 5)).flatten), [row b73 56 [lv, wv, .int .i64 held, .bool false]], YB, XF, XP, (((qs.take i).map flS).flatten), XL2, ZL, [row b1 64 (PC wd di cn hg X Y (.slice PA l.length cp) (.slice (some ⟨b1p, p1p, none⟩) ps.length pc))], [row gP 5 (cel cB (l ++ List.replicate 80 165))]] [] [4, 5, 6, 7, 8, 1, 3, 9, 10, 2, 11, 12] [0] hA112 rfl
          have hA114 : Hp w0 ([row b73 56 [lv, wv, .int .i64 held, .bool false]] :: YB :: XF :: XP :: (((qs.take (i + 1)).map flS).flatten) :: (((qs.drop (i + 1)).map (roomS 5)).flatten) :: XL2 :: (ZL ++ Zn) :: [row b1 64 (PC wd di cn hg X Y (.slice PA l.length cp) (.slice (some ⟨b1p, p1p, none⟩) ps.length pc))] :: [row gP 5 (cel cB (l ++ List.replicate 80 165))] :: []) w111 := hA113.cast (by rw [htk]; simp [flS])
          have hup2 : ∀ p ∈ us ++ [((An, cn_, l1.map flip) : Piece)], p.2.2.length ≤ p.2.1 ∧ Rd w0 [ZL ++ Zn] p.1 p.2.2 := fun p hp => by
            rcases List.mem_append.1 hp with h | h
            · exact ⟨(hup p h).1, (hup p h).2.monoF (fun r hr => by
                rw [List.flatten_cons, List.flatten_nil, List.append_nil] at hr ⊢
                exact List.mem_append_left _ hr)⟩
            · rw [List.mem_singleton] at h
              subst h
              exact ⟨by show (l1.map flip).length ≤ cn_; rw [List.length_map]; exact hcn, hRn.monoF (fun r hr => by
                rw [List.flatten_cons, List.flatten_nil, List.append_nil] at hr ⊢
                exact List.mem_append_right _ hr)⟩
          have hL3 : Buf 24 1 XL2 lsv2 (us ++ [((An, cn_, l1.map flip) : Piece)]).length ((us ++ [((An, cn_, l1.map flip) : Piece)]).map pieceV) := by
            rw [List.length_append, List.map_append]
            have e : [((An, cn_, l1.map flip) : Piece)].map pieceV = [.slice An l1.length cn_] := by simp [pieceV]
            rw [e]; exact hL2
          exact ⟨i + 1, by omega, us ++ [((An, cn_, l1.map flip) : Piece)], lsv2, XL2, (ZL ++ Zn), by omega, (by rw [List.length_append, hul]; rfl), (by rw [List.map_append, hus, hTk, List.map_append]; rfl), hup2, hL3, hF.keep [15, 14, 1, 3, 4, 6, 7, 8, 11] rfl, hA114⟩
        · refine vc_falseB hF rfl (lss_f (by omega)) ?_
          have hie4 : i = qs.length := by omega
          have hTl : TS.length = qs.length := by rw [← hTq, List.length_map]
          rw [hie4, ← hTl, List.take_length] at hus
          rw [hie4] at hul
          obtain ⟨AL, cL, rfl, _, hRL⟩ := hL.rc (w0 := w0) (R := [XL]) (List.mem_cons_self ..)
          have hPL : PcS w0 [XL, ZL] AL us := ⟨hRL.mono (sub1 (List.mem_cons_self ..)), fun p hp => ⟨(hup p hp).1, (hup p hp).2.mono (sub1 (List.mem_cons_of_mem _ (List.mem_cons_self ..)))⟩⟩
          obtain ⟨TF, hTF⟩ : ∃ TF, TF = TS.map (·.map flip) := ⟨_, rfl⟩
          rw [← hTF] at hus
          have hfl2 : TF.flatten.length ≤ 2147483647 := by rw [hTF, tl_flip]; exact hfl
          obtain ⟨TY, hTY⟩ : ∃ TY, TY = dom :: TF.flatten := ⟨_, rfl⟩
          have hA115 : Hp w0 ([row b73 56 [lv, wv, .int .i64 held, .bool false]] :: YB :: XF :: XP :: ((qs.map flS).flatten) :: (((qs.drop qs.length).map (roomS 5)).flatten) :: XL :: ZL :: [row b1 64 (PC wd di cn hg X Y (.slice PA l.length cp) (.slice pa ps.length pc))] :: [row gP 5 (cel cB (l ++ List.replicate 80 165))] :: []) w99 := by
            have h := hA98
            rw [hie4, List.take_length] at h
            exact h
          apply wp_exit
          refine hK33 _ _ ?_; clear hK35 K35 hK33 K33
          apply wp_seq_k; intro K40 hK40
          apply wp_seq_k; intro K41 hK41
          refine wp_region_planU 23 [3,8,16,21,23] [0,1,2,5,6,7,3,4,8,9,10,11,12,13,14,15,17,18,19,20,16,21,22,23] (fun x => Hq w0 ([row b73 56 [lv, wv, .int .i64 held, .bool false]] :: YB :: XF :: XP :: ((qs.map flS).flatten) :: (((qs.drop qs.length).map (roomS 5)).flatten) :: XL :: ZL :: [row b1 64 (PC wd di cn hg X Y (.slice PA l.length cp) (.slice pa ps.length pc))] :: [row gP 5 (cel cB (l ++ List.replicate 80 165))] :: []) x) (by kernel_rfl) (by kernel_rfl) (Hq.drew (Hp.qp [[row b73 56 [lv, wv, .int .i64 held, .bool false]], YB, XF, XP, ((qs.map flS).flatten), (((qs.drop qs.length).map (roomS 5)).flatten), XL, ZL, [row b1 64 (PC wd di cn hg X Y (.slice PA l.length cp) (.slice pa ps.length pc))], [row gP 5 (cel cB (l ++ List.replicate 80 165))]] [] [0, 1, 2, 3, 4, 5, 6, 7, 8, 9] hA115)) ?_
          have hA116 := Hl.drew hA115
          refine vu_y hF rfl rfl rfl rfl (by decide) _ (fun x hx => y_field rfl Tryd.underlying64 rfl sz3_tl (by decide) rfl (rfl : (⟨_, 0 + _, none⟩ : Addr) = ⟨_, 1, none⟩)) (fun a hF => ?_)
          refine vu_y hF rfl rfl rfl rfl (by decide) _ (fun x hx => y_ld rfl hx rfl 8 rfl rfl nr3_tl) (fun a hF => ?_)
          refine vu_y hF rfl rfl rfl rfl (by decide) _ (fun x hx => y_move rfl rfl) (fun a hF => ?_)
          refine vu_y hF rfl rfl rfl rfl (by decide) _ (fun x hx => y_field rfl Tryd.underlying64 rfl sz3_tl (by decide) rfl (rfl : (⟨_, 0 + _, none⟩ : Addr) = ⟨_, 1, none⟩)) (fun a hF => ?_)
          refine vu_y hF rfl rfl rfl rfl (by decide) _ (fun x hx => y_ld rfl hx rfl 8 rfl rfl nr3_tl) (fun a hF => ?_)
          refine vu_y hF rfl rfl rfl rfl (by decide) _ (fun x hx => y_move rfl rfl) (fun a hF => ?_)
          have hPf : PcS w0 ([row b73 56 [lv, wv, .int .i64 held, .bool false]] :: YB :: XF :: XP :: ((qs.map flS).flatten) :: (((qs.drop qs.length).map (roomS 5)).flatten) :: XL :: ZL :: [row b1 64 (PC wd di cn hg X Y (.slice PA l.length cp) (.slice pa ps.length pc))] :: [row gP 5 (cel cB (l ++ List.replicate 80 165))] :: []) AP (qs.map pcFl) := by
            obtain ⟨_, _, e1, _, h1⟩ := hP1.rc (w0 := w0) (R := ([row b73 56 [lv, wv, .int .i64 held, .bool false]] :: YB :: XF :: XP :: ((qs.map flS).flatten) :: (((qs.drop qs.length).map (roomS 5)).flatten) :: XL :: ZL :: [row b1 64 (PC wd di cn hg X Y (.slice PA l.length cp) (.slice pa ps.length pc))] :: [row gP 5 (cel cB (l ++ List.replicate 80 165))] :: [])) (List.mem_cons_of_mem _ (List.mem_cons_of_mem _ (List.mem_cons_of_mem _ ((List.mem_cons_self ..)))))
            injection e1 with e1 _ _
            subst e1
            exact pcs_fl h1 (List.mem_cons_of_mem _ (List.mem_cons_of_mem _ (List.mem_cons_of_mem _ (List.mem_cons_of_mem _ ((List.mem_cons_self ..))))))
          refine vu_l rfl rfl rfl (fun K hK => ws_call hF rfl (by decide) cl49_tl rfl rfl ?_)
          with_reducible refine (tt_text w0 _ ([row b73 56 [lv, wv, .int .i64 held, .bool false]] :: YB :: XF :: XP :: ((qs.map flS).flatten) :: (((qs.drop qs.length).map (roomS 5)).flatten) :: XL :: ZL :: [row b1 64 (PC wd di cn hg X Y (.slice PA l.length cp) (.slice pa ps.length pc))] :: [row gP 5 (cel cB (l ++ List.replicate 80 165))] :: []) _ (List.Subset.refl _) dom di hdi AP (qs.map pcFl) TF cP _ (by rw [List.length_map]) (by rw [pcFl_tx, hTq]; exact hTF.symm) hPf (by omega) (by omega) hA116 ).mono ?_
          rintro e' w117 ⟨tv_, Z1, rfl, hZ, hA118⟩
          refine ⟨_, rfl, fun a hF => hK _ _ (fun _ => ?_) ?_⟩
          · exact Hp.qp [Z1, [row b73 56 [lv, wv, .int .i64 held, .bool false]], YB, XF, XP, ((qs.map flS).flatten), (((qs.drop qs.length).map (roomS 5)).flatten), XL, ZL, [row b1 64 (PC wd di cn hg X Y (.slice PA l.length cp) (.slice pa ps.length pc))], [row gP 5 (cel cB (l ++ List.replicate 80 165))]] [] [1, 2, 3, 4, 5, 6, 7, 8, 9, 10] hA118
          clear hK K
          replace hA118 : Hp w0 (Z1 :: [row b73 56 [lv, wv, .int .i64 held, .bool false]] :: YB :: XF :: XP :: ((qs.map flS).flatten) :: (((qs.drop qs.length).map (roomS 5)).flatten) :: XL :: ZL :: [row b1 64 (PC wd di cn hg X Y (.slice PA l.length cp) (.slice pa ps.length pc))] :: [row gP 5 (cel cB (l ++ List.replicate 80 165))] :: []) w117 := hA118
          rw [← hTY] at hZ
          obtain ⟨_, A1, c1, rfl, _, hR1⟩ := hZ.rd (w0 := w0) (R := [Z1]) (List.mem_cons_self ..)
          refine pu_up (S' := fun x => Hq w0 (Z1 :: [row b73 56 [lv, wv, .int .i64 held, .bool false]] :: YB :: XF :: XP :: ((qs.map flS).flatten) :: (((qs.drop qs.length).map (roomS 5)).flatten) :: XL :: ZL :: [row b1 64 (PC wd di cn hg X Y (.slice PA l.length cp) (.slice pa ps.length pc))] :: [row gP 5 (cel cB (l ++ List.replicate 80 165))] :: []) x) (fun x hx => Hq.sub hx (picksub [Z1, [row b73 56 [lv, wv, .int .i64 held, .bool false]], YB, XF, XP, ((qs.map flS).flatten), (((qs.drop qs.length).map (roomS 5)).flatten), XL, ZL, [row b1 64 (PC wd di cn hg X Y (.slice PA l.length cp) (.slice pa ps.length pc))], [row gP 5 (cel cB (l ++ List.replicate 80 165))]] [] [1, 2, 3, 4, 5, 6, 7, 8, 9, 10])) hA118.q ?_
          refine vu_y hF rfl rfl rfl rfl (by decide) _ (fun x hx => y_convStr (l := TY) rfl Tryd.underlying24 Tryd.underlying5 Tryd.underlying9 rfl rfl (hR1.bts (Hq.sub hx (sub1 ((List.mem_cons_self ..)))))) (fun a hF => ?_)
          refine vu_l rfl rfl rfl (fun K hK => ws_call hF rfl (by decide) cl50_tl rfl rfl ?_)
          with_reducible refine (tt_rtext w0 _ (Z1 :: [row b73 56 [lv, wv, .int .i64 held, .bool false]] :: YB :: XF :: XP :: ((qs.map flS).flatten) :: (((qs.drop qs.length).map (roomS 5)).flatten) :: XL :: ZL :: [row b1 64 (PC wd di cn hg X Y (.slice PA l.length cp) (.slice pa ps.length pc))] :: [row gP 5 (cel cB (l ++ List.replicate 80 165))] :: []) [XL, ZL] (sub2 (List.mem_cons_of_mem _ (List.mem_cons_of_mem _ (List.mem_cons_of_mem _ (List.mem_cons_of_mem _ (List.mem_cons_of_mem _ (List.mem_cons_of_mem _ (List.mem_cons_of_mem _ ((List.mem_cons_self ..))))))))) (List.mem_cons_of_mem _ (List.mem_cons_of_mem _ (List.mem_cons_of_mem _ (List.mem_cons_of_mem _ (List.mem_cons_of_mem _ (List.mem_cons_of_mem _ (List.mem_cons_of_mem _ (List.mem_cons_of_mem _ ((List.mem_cons_self ..))))))))))) dom di hdi AL us TF cL _ rfl hus hPL (by omega) (by omega) hA118 ).mono ?_
          rintro e' w119 ⟨A2, c2, Z2, rfl, hR2, hA120⟩
          refine ⟨_, rfl, fun a hF => hK _ _ (fun _ => ?_) ?_⟩
          · exact Hp.qp [Z2, Z1, [row b73 56 [lv, wv, .int .i64 held, .bool false]], YB, XF, XP, ((qs.map flS).flatten), (((qs.drop qs.length).map (roomS 5)).flatten), XL, ZL, [row b1 64 (PC wd di cn hg X Y (.slice PA l.length cp) (.slice pa ps.length pc))], [row gP 5 (cel cB (l ++ List.replicate 80 165))]] [] [1, 2, 3, 4, 5, 6, 7, 8, 9, 10, 11] hA120
          clear hK K
          replace hA120 : Hp w0 (Z2 :: Z1 :: [row b73 56 [lv, wv, .int .i64 held, .bool false]] :: YB :: XF :: XP :: ((qs.map flS).flatten) :: (((qs.drop qs.length).map (roomS 5)).flatten) :: XL :: ZL :: [row b1 64 (PC wd di cn hg X Y (.slice PA l.length cp) (.slice pa ps.length pc))] :: [row gP 5 (cel cB (l ++ List.replicate 80 165))] :: []) w119 := hA120
          rw [← hTY] at hR2 hF
          refine pu_up (S' := fun x => Hq w0 (Z2 :: Z1 :: [row b73 56 [lv, wv, .int .i64 held, .bool false]] :: YB :: XF :: XP :: ((qs.map flS).flatten) :: (((qs.drop qs.length).map (roomS 5)).flatten) :: XL :: ZL :: [row b1 64 (PC wd di cn hg X Y (.slice PA l.length cp) (.slice pa ps.length pc))] :: [row gP 5 (cel cB (l ++ List.replicate 80 165))] :: []) x) (fun x hx => Hq.sub hx (picksub [Z2, Z1, [row b73 56 [lv, wv, .int .i64 held, .bool false]], YB, XF, XP, ((qs.map flS).flatten), (((qs.drop qs.length).map (roomS 5)).flatten), XL, ZL, [row b1 64 (PC wd di cn hg X Y (.slice PA l.length cp) (.slice pa ps.length pc))], [row gP 5 (cel cB (l ++ List.replicate 80 165))]] [] [1, 2, 3, 4, 5, 6, 7, 8, 9, 10, 11])) hA120.q ?_
          refine vu_y hF rfl rfl rfl rfl (by decide) _ (fun x hx => y_convStr (l := TY) rfl Tryd.underlying24 Tryd.underlying5 Tryd.underlying9 rfl rfl (hR2.bts (Hq.sub hx (sub1 ((List.mem_cons_self ..)))))) (fun a hF => ?_)
          refine vu_y hF rfl rfl rfl rfl (by decide) _ (fun x hx => y_cmpS rfl rfl rfl rfl (strB_neq_f _)) (fun a hF => ?_)
          refine vu_y hF rfl rfl rfl rfl (by decide) _ (fun x hx => y_move rfl rfl) (fun a hF => ?_)
          refine vu_yg hF rfl rfl rfl rfl rfl rfl rfl (by decide) _ (fun x hx => y_move rfl rfl) (fun a hF => ?_)
          refine vu_yg hF rfl rfl rfl rfl rfl rfl rfl (by decide) _ (fun x hx => y_field rfl Tryd.underlying64 rfl sz3_tl (by decide) rfl (rfl : (⟨_, 0 + _, none⟩ : Addr) = ⟨_, 1, none⟩)) (fun a hF => ?_)
          refine vu_yg hF rfl rfl rfl rfl rfl rfl rfl (by decide) _ (fun x hx => y_ld rfl hx rfl 10 rfl rfl nr3_tl) (fun a hF => ?_)
          refine vu_yg hF rfl rfl rfl rfl rfl rfl rfl (by decide) _ (fun x hx => y_move rfl rfl) (fun a hF => ?_)
          refine vu_yg hF rfl rfl rfl rfl rfl rfl rfl (by decide) _ (fun x hx => y_move rfl rfl) (fun a hF => ?_)
          refine vu_yg hF rfl rfl rfl rfl rfl rfl rfl (by decide) _ (fun x hx => y_field rfl Tryd.underlying64 rfl sz3_tl (by decide) rfl (rfl : (⟨_, 0 + _, none⟩ : Addr) = ⟨_, 1, none⟩)) (fun a hF => ?_)
          refine vu_yg hF rfl rfl rfl rfl rfl rfl rfl (by decide) _ (fun x hx => y_ld rfl hx rfl 10 rfl rfl nr3_tl) (fun a hF => ?_)
          refine vu_yg hF rfl rfl rfl rfl rfl rfl rfl (by decide) _ (fun x hx => y_move rfl rfl) (fun a hF => ?_)
          have hPf : PcS w0 (Z2 :: Z1 :: [row b73 56 [lv, wv, .int .i64 held, .bool false]] :: YB :: XF :: XP :: ((qs.map flS).flatten) :: (((qs.drop qs.length).map (roomS 5)).flatten) :: XL :: ZL :: [row b1 64 (PC wd di cn hg X Y (.slice PA l.length cp) (.slice pa ps.length pc))] :: [row gP 5 (cel cB (l ++ List.replicate 80 165))] :: []) AP (qs.map pcFl) := by
            obtain ⟨_, _, e1, _, h1⟩ := hP1.rc (w0 := w0) (R := (Z2 :: Z1 :: [row b73 56 [lv, wv, .int .i64 held, .bool false]] :: YB :: XF :: XP :: ((qs.map flS).flatten) :: (((qs.drop qs.length).map (roomS 5)).flatten) :: XL :: ZL :: [row b1 64 (PC wd di cn hg X Y (.slice PA l.length cp) (.slice pa ps.length pc))] :: [row gP 5 (cel cB (l ++ List.replicate 80 165))] :: [])) (List.mem_cons_of_mem _ (List.mem_cons_of_mem _ (List.mem_cons_of_mem _ (List.mem_cons_of_mem _ (List.mem_cons_of_mem _ ((List.mem_cons_self ..)))))))
            injection e1 with e1 _ _
            subst e1
            exact pcs_fl h1 (List.mem_cons_of_mem _ (List.mem_cons_of_mem _ (List.mem_cons_of_mem _ (List.mem_cons_of_mem _ (List.mem_cons_of_mem _ (List.mem_cons_of_mem _ ((List.mem_cons_self ..))))))))
          refine vu_lg hF rfl rfl rfl rfl rfl rfl (fun K hK => ws_call hF rfl (by decide) cl51_tl rfl rfl ?_)
          with_reducible refine (tt_of w0 _ (Z2 :: Z1 :: [row b73 56 [lv, wv, .int .i64 held, .bool false]] :: YB :: XF :: XP :: ((qs.map flS).flatten) :: (((qs.drop qs.length).map (roomS 5)).flatten) :: XL :: ZL :: [row b1 64 (PC wd di cn hg X Y (.slice PA l.length cp) (.slice pa ps.length pc))] :: [row gP 5 (cel cB (l ++ List.replicate 80 165))] :: []) _ (List.Subset.refl _) wd dom di hdi AP (qs.map pcFl) TF cP _ (by rw [List.length_map]) (by rw [pcFl_tx, hTq]; exact hTF.symm) hPf (by omega) (by omega) hT hA120 ).mono ?_
          rintro e' w121 ⟨rfl, hA122⟩
          refine ⟨_, rfl, fun a hF => hK _ _ (fun _ => ?_) ?_⟩
          · exact Hp.qp [Z2, Z1, [row b73 56 [lv, wv, .int .i64 held, .bool false]], YB, XF, XP, ((qs.map flS).flatten), (((qs.drop qs.length).map (roomS 5)).flatten), XL, ZL, [row b1 64 (PC wd di cn hg X Y (.slice PA l.length cp) (.slice pa ps.length pc))], [row gP 5 (cel cB (l ++ List.replicate 80 165))]] [] [0, 1, 2, 3, 4, 5, 6, 7, 8, 9, 10, 11] hA122
          clear hK K
          replace hA122 : Hp w0 (Z2 :: Z1 :: [row b73 56 [lv, wv, .int .i64 held, .bool false]] :: YB :: XF :: XP :: ((qs.map flS).flatten) :: (((qs.drop qs.length).map (roomS 5)).flatten) :: XL :: ZL :: [row b1 64 (PC wd di cn hg X Y (.slice PA l.length cp) (.slice pa ps.length pc))] :: [row gP 5 (cel cB (l ++ List.replicate 80 165))] :: []) w121 := hA122
          refine vu_lg hF rfl rfl rfl rfl rfl rfl (fun K hK => ws_call hF rfl (by decide) cl52_tl rfl rfl ?_)
          with_reducible refine (tt_rof w0 _ (Z2 :: Z1 :: [row b73 56 [lv, wv, .int .i64 held, .bool false]] :: YB :: XF :: XP :: ((qs.map flS).flatten) :: (((qs.drop qs.length).map (roomS 5)).flatten) :: XL :: ZL :: [row b1 64 (PC wd di cn hg X Y (.slice PA l.length cp) (.slice pa ps.length pc))] :: [row gP 5 (cel cB (l ++ List.replicate 80 165))] :: []) [XL, ZL] (sub2 (List.mem_cons_of_mem _ (List.mem_cons_of_mem _ (List.mem_cons_of_mem _ (List.mem_cons_of_mem _ (List.mem_cons_of_mem _ (List.mem_cons_of_mem _ (List.mem_cons_of_mem _ (List.mem_cons_of_mem _ ((List.mem_cons_self ..)))))))))) (List.mem_cons_of_mem _ (List.mem_cons_of_mem _ (List.mem_cons_of_mem _ (List.mem_cons_of_mem _ (List.mem_cons_of_mem _ (List.mem_cons_of_mem _ (List.mem_cons_of_mem _ (List.mem_cons_of_mem _ (List.mem_cons_of_mem _ ((List.mem_cons_self ..)))))))))))) wd dom di hdi AL us TF cL _ rfl hus hPL (by omega) (by omega) hA122 ).mono ?_
          rintro e' w123 ⟨rfl, hA124⟩
          refine ⟨_, rfl, fun a hF => hK _ _ (fun _ => ?_) ?_⟩
          · exact Hp.qp [Z2, Z1, [row b73 56 [lv, wv, .int .i64 held, .bool false]], YB, XF, XP, ((qs.map flS).flatten), (((qs.drop qs.length).map (roomS 5)).flatten), XL, ZL, [row b1 64 (PC wd di cn hg X Y (.slice PA l.length cp) (.slice pa ps.length pc))], [row gP 5 (cel cB (l ++ List.replicate 80 165))]] [] [0, 1, 2, 3, 4, 5, 6, 7, 8, 9, 10, 11] hA124
          clear hK K
          replace hA124 : Hp w0 (Z2 :: Z1 :: [row b73 56 [lv, wv, .int .i64 held, .bool false]] :: YB :: XF :: XP :: ((qs.map flS).flatten) :: (((qs.drop qs.length).map (roomS 5)).flatten) :: XL :: ZL :: [row b1 64 (PC wd di cn hg X Y (.slice PA l.length cp) (.slice pa ps.length pc))] :: [row gP 5 (cel cB (l ++ List.replicate 80 165))] :: []) w123 := hA124
          refine vu_yg hF rfl rfl rfl rfl rfl rfl rfl (by decide) _ (fun x hx => y_neB (c := false) rfl Tryd.underlying36 Tryd.underlying5 sz5_tl (by kernel_rfl) rfl rfl (ofL_length _ _ _) (ofL_length _ _ _) (by simp)) (fun a hF => ?_)
          refine vu_ly hF rfl rfl rfl rfl (by decide) _ (y_pick rfl rfl rfl) (fun h => absurd h (by decide)) (fun a hF => ?_)
          refine pu_end ?_
          refine hK41 _ _ ?_; clear  hK41 K41
          refine vc_false hF rfl ?_
          apply wp_skip
          refine hK40 _ _ ?_; clear  hK40 K40
          apply wp_seq_k; intro K42 hK42
          apply wp_seq_k; intro K43 hK43
          refine wp_region_lit ?_
          refine vc_y hF rfl rfl (by decide) _ (y_assign rfl rfl) (fun a hF => ?_)
          refine vc_nil ?_
          refine hK43 _ _ ?_; clear  hK43 K43
          apply wp_block
          have hA125 : Hp w0 ([row b73 56 [lv, wv, .int .i64 held, .bool false]] :: YB :: XF :: ((qs.map flS).flatten) :: [row b1 64 (PC wd di cn hg X Y (.slice PA l.length cp) (.slice pa ps.length pc))] :: [row gP 5 (cel cB (l ++ List.replicate 80 165))] :: []) w123 := Hp.sel [Z2, Z1, [row b73 56 [lv, wv, .int .i64 held, .bool false]], YB, XF, XP, ((qs.map flS).flatten), (((qs.drop qs.length).map (roomS 5)).flatten), XL, ZL, [row b1 64 (PC wd di cn hg X Y (.slice PA l.length cp) (.slice pa ps.length pc))], [row gP 5 (cel cB (l ++ List.replicate 80 165))]] [] [2, 3, 4, 6, 10, 11] [0, 1, 5, 7, 8, 9] hA124 rfl
          have hA126 : Hp w0 ([row b73 56 [lv, wv, .int .i64 held, .bool false]] :: YB :: XF :: (((qs.drop 0).map flS).flatten) :: [row b1 64 (PC wd di cn hg X Y (.slice PA l.length cp) (.slice pa ps.length pc))] :: [row gP 5 (cel cB (l ++ List.replicate 80 165))] :: []) w123 := hA125
          refine vc_loop (G := Nat) (fun i a x => ∃ (ks5 : List (KeptX UInt8)) (lv5 : Value) (wv5 : Value) (held5 : Int) (YB5 : Seg), i ≤ qs.length ∧ BookV cB 24 5 1 ks5 lv5 wv5 YB5 ∧ Fr 299 [(16, .int .i64 (i : Int)), (1, .pointer (some ⟨b1, 0, none⟩)), (3, .slice (some ⟨gP, 0, none⟩) (l.length + 80) (l.length + 80)), (4, .slice (some ⟨gP, 0, none⟩) l.length (l.length + 80)), (6, .int .i64 wd), (7, .slice AF qs.length cF), (11, .pointer (some ⟨b73, 0, none⟩))] a ∧ Hp w0 ([row b73 56 [lv5, wv5, .int .i64 held5, .bool false]] :: YB5 :: XF :: (((qs.drop i).map flS).flatten) :: [row b1 64 (PC wd di cn hg X Y (.slice PA l.length cp) (.slice pa ps.length pc))] :: [row gP 5 (cel cB (l ++ List.replicate 80 165))] :: []) x) (fun i => qs.length - i) 0 (⟨_, _, _, _, _, Nat.zero_le _, hB3, hF.keep [16, 1, 3, 4, 6, 7, 11] rfl, hA126⟩) ?_
          clear hF
          rintro i a w128 ⟨ks5, lv5, wv5, held5, YB5, hi5, hB5, hF, hA127⟩
          apply wp_seq_k; intro K44 hK44
          apply wp_seq_k; intro K45 hK45
          refine wp_region_lit ?_
          refine vc_y hF rfl rfl (by decide) _ (y_move rfl rfl) (fun a hF => ?_)
          refine vc_y hF rfl rfl (by decide) _ (y_move rfl rfl) (fun a hF => ?_)
          refine vc_y hF rfl rfl (by decide) _ (y_lenSl rfl Tryd.underlying29 rfl rfl) (fun a hF => ?_)
          refine vc_y hF rfl rfl (by decide) _ (y_cmp rfl rfl rfl rfl rfl) (fun a hF => ?_)
          refine vc_nil ?_
          refine hK45 _ _ ?_; clear  hK45 K45
          by_cases hltq : i < qs.length
          · refine vc_trueB hF rfl (lss_t (by omega)) ?_
            have hFn := hF
            obtain ⟨⟨g, l1⟩, hq⟩ : ∃ q, qs[i]? = some q := ⟨_, List.getElem?_eq_getElem hltq⟩
            have hdr : qs.drop i = (g, l1) :: qs.drop (i + 1) := by
              rw [List.drop_eq_getElem_cons hltq]
              rw [List.getElem?_eq_getElem hltq] at hq
              injection hq with hq
              rw [hq]
            have hl1 : l1.length < 140737488351300 := hql _ (List.mem_of_getElem? hq)
            obtain ⟨_, _, eF, _, hF2⟩ := hF1.rc (w0 := w0) (R := [XF]) (List.mem_cons_self ..)
            injection eF with eF _ _
            subst eF
            obtain ⟨bF, pF, rfl, hcF⟩ := hF2.ne (i := i) (by rw [List.length_map]; exact hltq)
            have hF := hFn
            have hA129 : Hp w0 ((((qs.drop i).map flS).flatten) :: [row b73 56 [lv5, wv5, .int .i64 held5, .bool false]] :: YB5 :: XF :: [row b1 64 (PC wd di cn hg X Y (.slice PA l.length cp) (.slice pa ps.length pc))] :: [row gP 5 (cel cB (l ++ List.replicate 80 165))] :: []) w128 := Hp.ord [[row b73 56 [lv5, wv5, .int .i64 held5, .bool false]], YB5, XF, (((qs.drop i).map flS).flatten), [row b1 64 (PC wd di cn hg X Y (.slice PA l.length cp) (.slice pa ps.length pc))], [row gP 5 (cel cB (l ++ List.replicate 80 165))]] [] [3, 0, 1, 2, 4, 5] hA127 rfl
            have hA130 : Hp w0 ([row g 5 (dc (l1.map flip) ++ dc (List.replicate 80 165))] :: (((qs.drop (i + 1)).map flS).flatten) :: [row b73 56 [lv5, wv5, .int .i64 held5, .bool false]] :: YB5 :: XF :: [row b1 64 (PC wd di cn hg X Y (.slice PA l.length cp) (.slice pa ps.length pc))] :: [row gP 5 (cel cB (l ++ List.replicate 80 165))] :: []) w128 := hA129.cast (by rw [hdr]; simp [flS])
            have hA131 : Hp w0 ([row g 5 (cel cB (l1.map flip ++ List.replicate 80 165))] :: (((qs.drop (i + 1)).map flS).flatten) :: [row b73 56 [lv5, wv5, .int .i64 held5, .bool false]] :: YB5 :: XF :: [row b1 64 (PC wd di cn hg X Y (.slice PA l.length cp) (.slice pa ps.length pc))] :: [row gP 5 (cel cB (l ++ List.replicate 80 165))] :: []) w128 := by rw [← cel_dc, dc_append]; exact hA130
            have hLl : (l1.map flip ++ List.replicate 80 (165 : UInt8)).length = l1.length + 80 := by rw [List.length_append, List.length_map, List.length_replicate]
            have hXk : Buf 5 1 [row g 5 (cel cB (l1.map flip ++ List.replicate 80 165))] (.slice (some ⟨g, 0, none⟩) (l1.length + 80) (l1.length + 80)) (l1.map flip ++ List.replicate 80 (165 : UInt8)).length (cel cB (l1.map flip ++ List.replicate 80 165)) := by
              rw [hLl]
              exact Buf.full (by rw [cel_len (sz := 1) (fun x _ => rfl), hLl]) (by omega)
            apply wp_skip
            refine hK44 _ _ ?_; clear  hK44 K44
            apply wp_seq_k; intro K46 hK46
            apply wp_block
            refine wp_region_lit ?_
            refine vc_y hF rfl rfl (by decide) _ (y_move rfl rfl) (fun a hF => ?_)
            refine vc_y hF rfl rfl (by decide) _ (y_move rfl rfl) (fun a hF => ?_)
            refine vc_y hF rfl rfl (by decide) _ (y_move rfl rfl) (fun a hF => ?_)
            refine vc_y hF rfl rfl (by decide) _ (y_ixSl rfl Tryd.underlying29 sz24_tl rfl rfl i rfl hltq (ad2 _ _ _)) (fun a hF => ?_)
            refine vc_y hF rfl rfl (by decide) _ (y_ldC (u := .slice (some ⟨g, 0, none⟩) (l1.length + 80) (l1.length + 80)) rfl (Hq.sub hA131.q (sub1 (List.mem_cons_of_mem _ (List.mem_cons_of_mem _ (List.mem_cons_of_mem _ (List.mem_cons_of_mem _ ((List.mem_cons_self ..)))))))) rfl hcF i (by rw [List.length_map]; exact hltq) rfl (by rw [List.getElem?_map, hq]; rfl) nr24_tl) (fun a hF => ?_)
            have hA132 : Hp w0 ([row g 5 (cel cB (l1.map flip ++ List.replicate 80 165))] :: [row b73 56 [lv5, wv5, .int .i64 held5, .bool false]] :: YB5 :: (((qs.drop (i + 1)).map flS).flatten) :: XF :: [row b1 64 (PC wd di cn hg X Y (.slice PA l.length cp) (.slice pa ps.length pc))] :: [row gP 5 (cel cB (l ++ List.replicate 80 165))] :: []) w128 := Hp.ord [[row g 5 (cel cB (l1.map flip ++ List.replicate 80 165))], (((qs.drop (i + 1)).map flS).flatten), [row b73 56 [lv5, wv5, .int .i64 held5, .bool false]], YB5, XF, [row b1 64 (PC wd di cn hg X Y (.slice PA l.length cp) (.slice pa ps.length pc))], [row gP 5 (cel cB (l ++ List.replicate 80 165))]] [] [0, 2, 3, 1, 4, 5, 6] hA131 rfl
            refine vc_op rfl (fun K hK => ws_call hF rfl (by decide) cl30_tl rfl rfl ?_)
            with_reducible refine (kb_keep_byte w0 _ _ b73 ks5 YB5 _ _ (l1.map flip ++ List.replicate 80 165) hB5 hXk (fun _ _ => rfl) (by rw [hLl]; omega) (cl_keepB (by rw [hLl]; omega)) hA132 ).mono ?_
            rintro e' w133 ⟨ks6, lv6, wv6, held6, YB6, rfl, hB6, _, hA134⟩
            refine ⟨_, rfl, fun a hF => hK _ _ ?_⟩
            clear hK K
            replace hA134 : Hp w0 ([row b73 56 [lv6, wv6, .int .i64 held6, .bool false]] :: YB6 :: (((qs.drop (i + 1)).map flS).flatten) :: XF :: [row b1 64 (PC wd di cn hg X Y (.slice PA l.length cp) (.slice pa ps.length pc))] :: [row gP 5 (cel cB (l ++ List.replicate 80 165))] :: []) w133 := hA134
            refine vc_nil ?_
            refine hK46 _ _ ?_; clear  hK46 K46
            refine wp_region_lit ?_
            refine vc_y hF rfl rfl (by decide) _ (y_move rfl rfl) (fun a hF => ?_)
            refine vc_y hF rfl rfl (by decide) _ (y_add rfl rfl rfl (IntWalk.i64_in _ (by omega))) (fun a hF => ?_)
            refine vc_y hF rfl rfl (by decide) _ (y_assign rfl rfl) (fun a hF => ?_)
            refine vc_nil ?_
            have hA135 : Hp w0 ([row b73 56 [lv6, wv6, .int .i64 held6, .bool false]] :: YB6 :: XF :: (((qs.drop (i + 1)).map flS).flatten) :: [row b1 64 (PC wd di cn hg X Y (.slice PA l.length cp) (.slice pa ps.length pc))] :: [row gP 5 (cel cB (l ++ List.replicate 80 165))] :: []) w133 := Hp.ord [[row b73 56 [lv6, wv6, .int .i64 held6, .bool false]], YB6, (((qs.drop (i + 1)).map flS).flatten), XF, [row b1 64 (PC wd di cn hg X Y (.slice PA l.length cp) (.slice pa ps.length pc))], [row gP 5 (cel cB (l ++ List.replicate 80 165))]] [] [0, 1, 3, 2, 4, 5] hA134 rfl
            exact ⟨i + 1, by omega, ks6, lv6, wv6, held6, YB6, by omega, hB6, hF.keep [16, 1, 3, 4, 6, 7, 11] rfl, hA135⟩
          · refine vc_falseB hF rfl (lss_f (by omega)) ?_
            apply wp_exit
            refine hK42 _ _ ?_; clear hK44 K44 hK42 K42
            apply wp_seq_k; intro K47 hK47
            apply wp_seq_k; intro K48 hK48
            refine wp_region_plan 14 [3,8,12,14] [0,1,2,3,4,5,6,7,9,10,11,8,12,13,14] (fun x => Hq w0 ([row b73 56 [lv5, wv5, .int .i64 held5, .bool false]] :: YB5 :: XF :: (((qs.drop i).map flS).flatten) :: [row b1 64 (PC wd di cn hg X Y (.slice PA l.length cp) (.slice pa ps.length pc))] :: [row gP 5 (cel cB (l ++ List.replicate 80 165))] :: []) x) (by kernel_rfl) (by kernel_rfl) (Hq.drew (Hp.qp [[row b73 56 [lv5, wv5, .int .i64 held5, .bool false]], YB5, XF, (((qs.drop i).map flS).flatten), [row b1 64 (PC wd di cn hg X Y (.slice PA l.length cp) (.slice pa ps.length pc))], [row gP 5 (cel cB (l ++ List.replicate 80 165))]] [] [0, 1, 2, 3, 4, 5] hA127)) ?_
            have hA136 := Hl.drew hA127
            refine vp_y hF rfl rfl rfl rfl (by decide) _ (fun x hx => y_move rfl rfl) (fun a hF => ?_)
            refine vp_y hF rfl rfl rfl rfl (by decide) _ (fun x hx => y_field rfl Tryd.underlying64 rfl sz24_tl (by decide) rfl (rfl : (⟨_, 0 + _, none⟩ : Addr) = ⟨_, 68, none⟩)) (fun a hF => ?_)
            refine vp_y hF rfl rfl rfl rfl (by decide) _ (fun x hx => y_ld rfl hx rfl 4 rfl (pc_P hX hY) nr24_tl) (fun a hF => ?_)
            refine vp_l rfl rfl rfl (fun K hK => ws_call hF rfl (by decide) cl22_tl rfl rfl ?_)
            with_reducible refine (cl_intactB w0 _ ([row b73 56 [lv5, wv5, .int .i64 held5, .bool false]] :: YB5 :: XF :: (((qs.drop i).map flS).flatten) :: [row b1 64 (PC wd di cn hg X Y (.slice PA l.length cp) (.slice pa ps.length pc))] :: [row gP 5 (cel cB (l ++ List.replicate 80 165))] :: []) (some ⟨gP, 0, none⟩) PA l (l.length + 80) cp (Rc.ofRow (i := 5) (off := 0) rfl (by rw [List.drop_zero, List.take_length])) (hR.mono (List.nil_subset _)) (Nat.le_refl _) hA136 (by omega) ).mono ?_
            rintro e' w137 ⟨rfl, hA138⟩
            refine ⟨_, rfl, fun a hF => hK _ _ (fun _ => ?_) ?_⟩
            · exact Hp.qp [[row b73 56 [lv5, wv5, .int .i64 held5, .bool false]], YB5, XF, (((qs.drop i).map flS).flatten), [row b1 64 (PC wd di cn hg X Y (.slice PA l.length cp) (.slice pa ps.length pc))], [row gP 5 (cel cB (l ++ List.replicate 80 165))]] [] [0, 1, 2, 3, 4, 5] hA138
            clear hK K
            replace hA138 : Hp w0 ([row b73 56 [lv5, wv5, .int .i64 held5, .bool false]] :: YB5 :: XF :: (((qs.drop i).map flS).flatten) :: [row b1 64 (PC wd di cn hg X Y (.slice PA l.length cp) (.slice pa ps.length pc))] :: [row gP 5 (cel cB (l ++ List.replicate 80 165))] :: []) w137 := hA138
            refine vp_y hF rfl rfl rfl rfl (by decide) _ (fun x hx => y_not rfl rfl rfl) (fun a hF => ?_)
            refine vp_y hF rfl rfl rfl rfl (by decide) _ (fun x hx => y_move rfl rfl) (fun a hF => ?_)
            refine vp_yg hF rfl rfl rfl rfl rfl rfl rfl (by decide) _ (fun x hx => y_move rfl rfl) (fun a hF => ?_)
            refine vp_yg hF rfl rfl rfl rfl rfl rfl rfl (by decide) _ (fun x hx => y_move rfl rfl) (fun a hF => ?_)
            refine vp_yg hF rfl rfl rfl rfl rfl rfl rfl (by decide) _ (fun x hx => y_move rfl rfl) (fun a hF => ?_)
            refine vp_yg hF rfl rfl rfl rfl rfl rfl rfl (by decide) _ (fun x hx => y_field rfl Tryd.underlying64 rfl sz24_tl (by decide) rfl (rfl : (⟨_, 0 + _, none⟩ : Addr) = ⟨_, 68, none⟩)) (fun a hF => ?_)
            refine vp_yg hF rfl rfl rfl rfl rfl rfl rfl (by decide) _ (fun x hx => y_ld rfl hx rfl 4 rfl (pc_P hX hY) nr24_tl) (fun a hF => ?_)
            refine vp_lg hF rfl rfl rfl rfl rfl rfl (fun K hK => ws_call hF rfl (by decide) cl33_tl rfl rfl ?_)
            with_reducible refine (tt_leaf w0 _ ([row b73 56 [lv5, wv5, .int .i64 held5, .bool false]] :: YB5 :: XF :: (((qs.drop i).map flS).flatten) :: [row b1 64 (PC wd di cn hg X Y (.slice PA l.length cp) (.slice pa ps.length pc))] :: [row gP 5 (cel cB (l ++ List.replicate 80 165))] :: []) _ (List.Subset.refl _) wd _ l _ hT (tl_room2 (List.mem_cons_of_mem _ (List.mem_cons_of_mem _ (List.mem_cons_of_mem _ (List.mem_cons_of_mem _ (List.mem_cons_of_mem _ ((List.mem_cons_self ..)))))))) (by omega) (by omega) hA138 ).mono ?_
            rintro e' w139 ⟨rfl, hA140⟩
            refine ⟨_, rfl, fun a hF => hK _ _ (fun _ => ?_) ?_⟩
            · exact Hp.qp [[row b73 56 [lv5, wv5, .int .i64 held5, .bool false]], YB5, XF, (((qs.drop i).map flS).flatten), [row b1 64 (PC wd di cn hg X Y (.slice PA l.length cp) (.slice pa ps.length pc))], [row gP 5 (cel cB (l ++ List.replicate 80 165))]] [] [0, 1, 2, 3, 4, 5] hA140
            clear hK K
            replace hA140 : Hp w0 ([row b73 56 [lv5, wv5, .int .i64 held5, .bool false]] :: YB5 :: XF :: (((qs.drop i).map flS).flatten) :: [row b1 64 (PC wd di cn hg X Y (.slice PA l.length cp) (.slice pa ps.length pc))] :: [row gP 5 (cel cB (l ++ List.replicate 80 165))] :: []) w139 := hA140
            refine vp_lg hF rfl rfl rfl rfl rfl rfl (fun K hK => ws_call hF rfl (by decide) cl35_tl rfl rfl ?_)
            with_reducible refine (tt_rleaf w0 _ ([row b73 56 [lv5, wv5, .int .i64 held5, .bool false]] :: YB5 :: XF :: (((qs.drop i).map flS).flatten) :: [row b1 64 (PC wd di cn hg X Y (.slice PA l.length cp) (.slice pa ps.length pc))] :: [row gP 5 (cel cB (l ++ List.replicate 80 165))] :: []) _ (List.Subset.refl _) wd PA l cp (hR.mono (List.nil_subset _)) hcp (by omega) hA140 ).mono ?_
            rintro e' w141 ⟨rfl, hA142⟩
            refine ⟨_, rfl, fun a hF => hK _ _ (fun _ => ?_) ?_⟩
            · exact Hp.qp [[row b73 56 [lv5, wv5, .int .i64 held5, .bool false]], YB5, XF, (((qs.drop i).map flS).flatten), [row b1 64 (PC wd di cn hg X Y (.slice PA l.length cp) (.slice pa ps.length pc))], [row gP 5 (cel cB (l ++ List.replicate 80 165))]] [] [0, 1, 2, 3, 4, 5] hA142
            clear hK K
            replace hA142 : Hp w0 ([row b73 56 [lv5, wv5, .int .i64 held5, .bool false]] :: YB5 :: XF :: (((qs.drop i).map flS).flatten) :: [row b1 64 (PC wd di cn hg X Y (.slice PA l.length cp) (.slice pa ps.length pc))] :: [row gP 5 (cel cB (l ++ List.replicate 80 165))] :: []) w141 := hA142
            refine vp_yg hF rfl rfl rfl rfl rfl rfl rfl (by decide) _ (fun x hx => y_neB (c := false) rfl Tryd.underlying36 Tryd.underlying5 sz5_tl (by kernel_rfl) rfl rfl (ofL_length _ _ _) (ofL_length _ _ _) (by simp)) (fun a hF => ?_)
            refine vp_ly hF rfl rfl rfl rfl (by decide) _ (y_pick rfl rfl rfl) (fun h => absurd h (by decide)) (fun a hF => ?_)
            refine plan_end ?_
            refine hK48 _ _ ?_; clear  hK48 K48
            refine vc_false hF rfl ?_
            have hA143 : Hp w0 ([row b73 56 [lv5, wv5, .int .i64 held5, .bool false]] :: YB5 :: XF :: (((qs.drop i).map flS).flatten) :: [row b1 64 (PC wd di cn hg X Y (.slice PA l.length cp) (.slice pa ps.length pc))] :: [row gP 5 (dc l ++ dc (List.replicate 80 165))] :: []) w141 := by rw [← dc_append, cel_dc]; exact hA142
            apply wp_skip
            refine hK47 _ _ ?_; clear  hK47 K47
            apply wp_seq_k; intro K49 hK49
            refine wp_region_lit ?_
            refine vc_y hF rfl rfl (by decide) _ (y_move rfl rfl) (fun a hF => ?_)
            have hA144 : Hp w0 ([row gP 5 (dc l ++ dc (List.replicate 80 165))] :: [row b73 56 [lv5, wv5, .int .i64 held5, .bool false]] :: YB5 :: XF :: (((qs.drop i).map flS).flatten) :: [row b1 64 (PC wd di cn hg X Y (.slice PA l.length cp) (.slice pa ps.length pc))] :: []) w141 := Hp.ord [[row b73 56 [lv5, wv5, .int .i64 held5, .bool false]], YB5, XF, (((qs.drop i).map flS).flatten), [row b1 64 (PC wd di cn hg X Y (.slice PA l.length cp) (.slice pa ps.length pc))], [row gP 5 (dc l ++ dc (List.replicate 80 165))]] [] [5, 0, 1, 2, 3, 4] hA143 rfl
            refine vc_op rfl (fun K hK => ws_call hF rfl (by decide) cl27_tl rfl rfl ?_)
            with_reducible refine (cs_turnedN w0 _ ([row b73 56 [lv5, wv5, .int .i64 held5, .bool false]] :: YB5 :: XF :: (((qs.drop i).map flS).flatten) :: [row b1 64 (PC wd di cn hg X Y (.slice PA l.length cp) (.slice pa ps.length pc))] :: []) gP l (l.length + 80) (by omega) hA144 ).mono ?_
            rintro e' w145 ⟨Ap, cp_, Zp, rfl, hcp2, hRp, hA146⟩
            refine ⟨_, rfl, fun a hF => hK _ _ ?_⟩
            clear hK K
            replace hA146 : Hp w0 ([row gP 5 (dc (l.map flip) ++ dc (List.replicate 80 165))] :: Zp :: [row b73 56 [lv5, wv5, .int .i64 held5, .bool false]] :: YB5 :: XF :: (((qs.drop i).map flS).flatten) :: [row b1 64 (PC wd di cn hg X Y (.slice PA l.length cp) (.slice pa ps.length pc))] :: []) w145 := hA146
            obtain ⟨lf, hlf⟩ : ∃ lf, lf = l.map flip := ⟨_, rfl⟩
            have hlfl : lf.length = l.length := by rw [hlf, List.length_map]
            rw [← hlf] at hA146 hRp
            rw [← hlfl] at hF hcp2
            refine vc_y hF rfl rfl (by decide) _ (y_assign rfl rfl) (fun a hF => ?_)
            refine vc_nil ?_
            refine hK49 _ _ ?_; clear  hK49 K49
            apply wp_seq_k; intro K50 hK50
            refine wp_region_lit ?_
            refine vc_y hF rfl rfl (by decide) _ (y_move rfl rfl) (fun a hF => ?_)
            refine vc_y hF rfl rfl (by decide) _ (y_move rfl rfl) (fun a hF => ?_)
            refine vc_op rfl (fun K hK => ws_call hF rfl (by decide) cl33_tl rfl rfl ?_)
            with_reducible refine (tt_leaf w0 _ ([row gP 5 (dc lf ++ dc (List.replicate 80 165))] :: Zp :: [row b73 56 [lv5, wv5, .int .i64 held5, .bool false]] :: YB5 :: XF :: (((qs.drop i).map flS).flatten) :: [row b1 64 (PC wd di cn hg X Y (.slice PA l.length cp) (.slice pa ps.length pc))] :: []) _ (List.Subset.refl _) wd (some ⟨gP, 0, none⟩) lf (lf.length + 80) hT (Rc.ofRow (i := 0) (off := 0) rfl (by rw [List.drop_zero]; exact List.take_left' rfl)) (Nat.le_add_right _ _) (by omega) hA146 ).mono ?_
            rintro e' w147 ⟨rfl, hA148⟩
            refine ⟨_, rfl, fun a hF => hK _ _ ?_⟩
            clear hK K
            replace hA148 : Hp w0 ([row gP 5 (dc lf ++ dc (List.replicate 80 165))] :: Zp :: [row b73 56 [lv5, wv5, .int .i64 held5, .bool false]] :: YB5 :: XF :: (((qs.drop i).map flS).flatten) :: [row b1 64 (PC wd di cn hg X Y (.slice PA l.length cp) (.slice pa ps.length pc))] :: []) w147 := hA148
            refine vc_y hF rfl rfl (by decide) _ (y_move rfl rfl) (fun a hF => ?_)
            refine vc_y hF rfl rfl (by decide) _ (y_move rfl rfl) (fun a hF => ?_)
            refine vc_op rfl (fun K hK => ws_call hF rfl (by decide) cl35_tl rfl rfl ?_)
            with_reducible refine (tt_rleaf w0 _ ([row gP 5 (dc lf ++ dc (List.replicate 80 165))] :: Zp :: [row b73 56 [lv5, wv5, .int .i64 held5, .bool false]] :: YB5 :: XF :: (((qs.drop i).map flS).flatten) :: [row b1 64 (PC wd di cn hg X Y (.slice PA l.length cp) (.slice pa ps.length pc))] :: []) _ (List.Subset.refl _) wd Ap lf cp_ (hRp.mono (sub1 (List.mem_cons_of_mem _ ((List.mem_cons_self ..))))) hcp2 (by omega) hA148 ).mono ?_
            rintro e' w149 ⟨rfl, hA150⟩
            refine ⟨_, rfl, fun a hF => hK _ _ ?_⟩
            clear hK K
            replace hA150 : Hp w0 ([row gP 5 (dc lf ++ dc (List.replicate 80 165))] :: Zp :: [row b73 56 [lv5, wv5, .int .i64 held5, .bool false]] :: YB5 :: XF :: (((qs.drop i).map flS).flatten) :: [row b1 64 (PC wd di cn hg X Y (.slice PA l.length cp) (.slice pa ps.length pc))] :: []) w149 := hA150
            refine vc_y hF rfl rfl (by decide) _ (y_eqB (c := true) rfl Tryd.underlying36 Tryd.underlying5 sz5_tl (by kernel_rfl) rfl rfl (ofL_length _ _ _) (ofL_length _ _ _) (by simp)) (fun a hF => ?_)
            refine vc_y hF rfl rfl (by decide) _ (y_move rfl rfl) (fun a hF => ?_)
            refine vc_yg hF rfl rfl rfl rfl rfl (by decide) _ (y_move rfl rfl) (fun a hF => ?_)
            have hA151 : Hp w0 ([row b73 56 [lv5, wv5, .int .i64 held5, .bool false]] :: YB5 :: [row gP 5 (dc lf ++ dc (List.replicate 80 165))] :: Zp :: XF :: (((qs.drop i).map flS).flatten) :: [row b1 64 (PC wd di cn hg X Y (.slice PA l.length cp) (.slice pa ps.length pc))] :: []) w149 := Hp.ord [[row gP 5 (dc lf ++ dc (List.replicate 80 165))], Zp, [row b73 56 [lv5, wv5, .int .i64 held5, .bool false]], YB5, XF, (((qs.drop i).map flS).flatten), [row b1 64 (PC wd di cn hg X Y (.slice PA l.length cp) (.slice pa ps.length pc))]] [] [2, 3, 0, 1, 4, 5, 6] hA150 rfl
            refine vc_opg hF rfl rfl rfl rfl (fun K hK => ws_call hF rfl (by decide) cl31_tl rfl rfl ?_)
            with_reducible refine (kb_apart_byte w0 _ ([row gP 5 (dc lf ++ dc (List.replicate 80 165))] :: Zp :: XF :: (((qs.drop i).map flS).flatten) :: [row b1 64 (PC wd di cn hg X Y (.slice PA l.length cp) (.slice pa ps.length pc))] :: []) b73 32 ks5 YB5 kb_mb (fun _ _ => rfl) cl32_tl (kb_mark_byte w0) hB5 hA151 ).mono ?_
            rintro e' w152 ⟨rfl, hA153⟩
            refine ⟨_, rfl, fun a hF => hK _ _ ?_⟩
            clear hK K
            replace hA153 : Hp w0 ([row b73 56 [.slice none 0 0, .slice none 0 0, .int .i64 0, .bool false]] :: [row gP 5 (dc lf ++ dc (List.replicate 80 165))] :: Zp :: XF :: (((qs.drop i).map flS).flatten) :: [row b1 64 (PC wd di cn hg X Y (.slice PA l.length cp) (.slice pa ps.length pc))] :: []) w152 := hA153
            refine vc_y hF rfl rfl (by decide) _ (y_pick rfl rfl rfl) (fun a hF => ?_)
            refine vc_y hF rfl rfl (by decide) _ (y_assign rfl rfl) (fun a hF => ?_)
            refine vc_nil ?_
            refine hK50 _ _ ?_; clear  hK50 K50
            apply wp_ret
            refine vc_ret1 hF Tryd.results9 rfl ?_
            exact ⟨rfl, hA153.at0⟩
end Go.Proofs.YtppmhlkonemebaaDoor
