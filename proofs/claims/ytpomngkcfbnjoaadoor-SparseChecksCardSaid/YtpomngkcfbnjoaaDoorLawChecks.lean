/- The walk of SparseChecks. -/
import Derived.Test.YtpomngkcfbnjoaaDoorSp5
import Derived.Test.YtpomngkcfbnjoaaDoorSp6
namespace Go.Proofs.YtpomngkcfbnjoaaDoor
open Go.RowKit Go.Dk

theorem sp_roomR {w0 : World} {g : Nat} (ss : List (List UInt8)) (y : List UInt8) : Rc w0 [[row g 23 (cel dc (ss ++ List.replicate 80 y))]] (some ⟨g, 0, none⟩) (digV ss) :=
  Rc.ofRow (i := 0) (off := 0) rfl (by rw [List.drop_zero, cel_append]; exact List.take_left' rfl)
theorem nr26_s7 : notRow Tryd.prog 26 = true := by kernel_rfl
theorem rw23_s7 : isRow Tryd.prog 23 32 = true := by kernel_rfl
theorem rw28_s7 : isRow Tryd.prog 28 67 = true := by kernel_rfl
theorem sz23_s7 : (Tryd.prog.info? 23).map (·.size) = some 32 := by kernel_rfl
theorem sz26_s7 : (Tryd.prog.info? 26).map (·.size) = some 1 := by kernel_rfl
theorem sz28_s7 : (Tryd.prog.info? 28).map (·.size) = some 67 := by kernel_rfl
theorem cl9_s7 : CallsTo Tryd.prog 9 := ⟨_, Tryd.func9, by kernel_rfl, by kernel_rfl⟩
theorem cl10_s7 : CallsTo Tryd.prog 10 := ⟨_, Tryd.func10, by kernel_rfl, by kernel_rfl⟩
theorem cl11_s7 : CallsTo Tryd.prog 11 := ⟨_, Tryd.func11, by kernel_rfl, by kernel_rfl⟩
theorem cl12_s7 : CallsTo Tryd.prog 12 := ⟨_, Tryd.func12, by kernel_rfl, by kernel_rfl⟩
theorem cl13_s7 : CallsTo Tryd.prog 13 := ⟨_, Tryd.func13, by kernel_rfl, by kernel_rfl⟩
theorem cl14_s7 : CallsTo Tryd.prog 14 := ⟨_, Tryd.func14, by kernel_rfl, by kernel_rfl⟩
theorem cl15_s7 : CallsTo Tryd.prog 15 := ⟨_, Tryd.func15, by kernel_rfl, by kernel_rfl⟩
theorem cl16_s7 : CallsTo Tryd.prog 16 := ⟨_, Tryd.func16, by kernel_rfl, by kernel_rfl⟩
theorem cl17_s7 : CallsTo Tryd.prog 17 := ⟨_, Tryd.func17, by kernel_rfl, by kernel_rfl⟩

theorem zr23_s7 : zeroIs Tryd.prog 23 (.agg (dc (List.replicate 32 0)).toArray) := by unfold zeroIs; kernel_rfl
theorem zr28_s7 : zeroIs Tryd.prog 28 (.agg ([.bool false, .int .i64 0, .int .u8 0, .int .u8 0, .int .u8 0, .int .u8 0, .int .u8 0, .int .u8 0, .int .u8 0, .int .u8 0, .int .u8 0, .int .u8 0, .int .u8 0, .int .u8 0, .int .u8 0, .int .u8 0, .int .u8 0, .int .u8 0, .int .u8 0, .int .u8 0, .int .u8 0, .int .u8 0, .int .u8 0, .int .u8 0, .int .u8 0, .int .u8 0, .int .u8 0, .int .u8 0, .int .u8 0, .int .u8 0, .int .u8 0, .int .u8 0, .int .u8 0, .int .u8 0, .int .u8 0, .int .u8 0, .int .u8 0, .int .u8 0, .int .u8 0, .int .u8 0, .int .u8 0, .int .u8 0, .int .u8 0, .int .u8 0, .int .u8 0, .int .u8 0, .int .u8 0, .int .u8 0, .int .u8 0, .int .u8 0, .int .u8 0, .int .u8 0, .int .u8 0, .int .u8 0, .int .u8 0, .int .u8 0, .int .u8 0, .int .u8 0, .int .u8 0, .int .u8 0, .int .u8 0, .int .u8 0, .int .u8 0, .int .u8 0, .int .u8 0, .int .u8 0, .slice none 0 0] : List Value).toArray) := by unfold zeroIs; kernel_rfl

set_option maxRecDepth 100000 in
set_option maxHeartbeats 2000000 in
theorem law_checks (w0 : World) (width : Int) (root k : List UInt8) (p : Prf) (sA : Option Addr) (n sC : Nat) (hT : Tab w0) (hr : root.length = 32) (hk : k.length = 32) (hp : p.OK) (hn : n ≤ sC) (hlen : p.ss.length = min n 300) (hS : Rc w0 [] sA (digV p.ss)) : Calls Tryd.prog 3 #[.int .i64 width, .agg (dc root).toArray, .agg (dc k).toArray, .agg (p.cells (.slice sA n sC)).toArray] w0 fun e w' => e = .returned (.bool true) ∧ At w0 [] w' := by
  have hA : Hp w0 [] w0 := Hp.start w0
  have hdk : (dc k).length = 32 := by rw [dc_length, hk]
  have hdr : (dc root).length = 32 := by rw [dc_length, hr]
  have hdt : (dc (p.to width k)).length = 32 := by rw [dc_length, p.to_length]
  have hl1 : ∀ x ∈ p.ss, (dc x).length = 32 := fun x hx => by rw [dc_length]; exact hp.ss x hx
  have hy1 : (dc strangerL).length = 32 := rfl
  have hfew := hp.few
  have hle : p.ss.length ≤ sC := by omega
  refine vc_enter Tryd.func3 rfl Tryd.ntmps3 (Nat.le_of_ble_eq_true rfl) (fun a hF => ?_)
  apply wp_seq_k; intro K1 hK1
  refine wp_region_lit ?_
  refine vc_op rfl (fun K hK => hs_box (cs := dc root) hF rfl (by decide) rfl hA rfl (fun b1 w2 a hb1 hF hA3 => hK _ _ ?_))
  clear hK K
  replace hA3 : Hp w0 ([row b1 23 (dc root)] :: []) w2 := hA3
  refine vc_op rfl (fun K hK => hs_box (cs := dc k) hF rfl (by decide) rfl hA3 rfl (fun b4 w5 a hb4 hF hA6 => hK _ _ ?_))
  clear hK K
  replace hA6 : Hp w0 ([row b4 23 (dc k)] :: [row b1 23 (dc root)] :: []) w5 := hA6
  refine vc_op rfl (fun K hK => hs_box (cs := p.cells (.slice sA n sC)) hF rfl (by decide) rfl hA6 rfl (fun b7 w8 a hb7 hF hA9 => hK _ _ ?_))
  clear hK K
  replace hA9 : Hp w0 ([row b7 28 (p.cells (.slice sA n sC))] :: [row b4 23 (dc k)] :: [row b1 23 (dc root)] :: []) w8 := hA9
  refine vc_y hF rfl rfl (by decide) _ (y_assign rfl rfl) (fun a hF => ?_)
  refine vc_nil ?_
  refine hK1 _ _ ?_; clear  hK1 K1
  apply wp_seq_k; intro K2 hK2
  refine wp_region_lit ?_
  refine vc_y hF rfl rfl (by decide) _ (y_ldRow rfl hA9.q rfl 0 rfl rw28_s7 (by rw [Prf.c_len hp]; decide) (Prf.c_all hp)) (fun a hF => ?_)
  refine vc_op rfl (fun K hK => ws_call hF rfl (by decide) cl9_s7 rfl rfl ?_)
  with_reducible refine (sp_short w0 _ ([row b7 28 (p.cells (.slice sA n sC))] :: [row b4 23 (dc k)] :: [row b1 23 (dc root)] :: []) p sA n sC hp hn hlen hA9 ).mono ?_
  rintro e' w10 ⟨rfl, hA11⟩
  refine ⟨_, rfl, fun a hF => hK _ _ ?_⟩
  clear hK K
  replace hA11 : Hp w0 ([row b7 28 (p.cells (.slice sA n sC))] :: [row b4 23 (dc k)] :: [row b1 23 (dc root)] :: []) w10 := hA11
  refine vc_op rfl (fun K hK => hs_storeAll (new := p.cells (.slice sA p.ss.length sC)) hF rfl rfl hA11 rfl rfl 0 rfl (by rw [Prf.c_len hp, Prf.c_len hp]) (Prf.c_one rfl) (by rw [Prf.c_len hp]; exact sz28_s7) (fun w12 hA13 => hK _ _ ?_))
  clear hK K
  replace hA13 : Hp w0 ([row b7 28 (p.cells (.slice sA p.ss.length sC))] :: [row b4 23 (dc k)] :: [row b1 23 (dc root)] :: []) w12 := hA13
  refine vc_nil ?_
  refine hK2 _ _ ?_; clear  hK2 K2
  apply wp_seq_k; intro K3 hK3
  refine wp_region_plan 3 [2,3,4] [0,1,2,3,4] (fun x => Hq w0 ([row b7 28 (p.cells (.slice sA p.ss.length sC))] :: [row b4 23 (dc k)] :: [row b1 23 (dc root)] :: []) x) (by kernel_rfl) (by kernel_rfl) (Hq.drew (Hp.qp [[row b7 28 (p.cells (.slice sA p.ss.length sC))], [row b4 23 (dc k)], [row b1 23 (dc root)]] [] [0, 1, 2] hA13)) ?_
  have hA14 := Hl.drew hA13
  refine vp_y hF rfl rfl rfl rfl (by decide) _ (fun x hx => y_field rfl Tryd.underlying28 rfl sz26_s7 (by decide) rfl (rfl : (⟨_, 0 + _, none⟩ : Addr) = ⟨_, 66, none⟩)) (fun a hF => ?_)
  refine vp_y hF rfl rfl rfl rfl (by decide) _ (fun x hx => y_ld rfl hx rfl 0 rfl (Prf.c_sums hp) nr26_s7) (fun a hF => ?_)
  refine vp_l rfl rfl rfl (fun K hK => ws_call hF rfl (by decide) cl11_s7 rfl rfl ?_)
  with_reducible refine (sp_stranger w0 _ ([row b7 28 (p.cells (.slice sA p.ss.length sC))] :: [row b4 23 (dc k)] :: [row b1 23 (dc root)] :: []) hA14 ).mono ?_
  rintro e' w15 ⟨rfl, hA16⟩
  refine ⟨_, rfl, fun a hF => hK _ _ (fun _ => ?_) ?_⟩
  · exact Hp.qp [[row b7 28 (p.cells (.slice sA p.ss.length sC))], [row b4 23 (dc k)], [row b1 23 (dc root)]] [] [0, 1, 2] hA16
  clear hK K
  replace hA16 : Hp w0 ([row b7 28 (p.cells (.slice sA p.ss.length sC))] :: [row b4 23 (dc k)] :: [row b1 23 (dc root)] :: []) w15 := hA16
  refine vp_l rfl rfl rfl (fun K hK => ws_call hF rfl (by decide) cl10_s7 rfl rfl ?_)
  with_reducible refine (kb_roomy_digest w0 _ ([row b7 28 (p.cells (.slice sA p.ss.length sC))] :: [row b4 23 (dc k)] :: [row b1 23 (dc root)] :: []) sA p.ss sC strangerL (hS.mono (List.nil_subset _)) hl1 hy1 hA16 (by omega) ).mono ?_
  rintro e' w17 ⟨g, rfl, hA18⟩
  refine ⟨_, rfl, fun a hF => hK _ _ (fun h => absurd h (by decide)) ?_⟩
  clear hK K
  replace hA18 : Hp w0 ([row g 23 (cel dc (p.ss ++ List.replicate 80 strangerL))] :: [row b7 28 (p.cells (.slice sA p.ss.length sC))] :: [row b4 23 (dc k)] :: [row b1 23 (dc root)] :: []) w17 := hA18
  refine vp_ly hF rfl rfl rfl rfl (by decide) _ (y_assign rfl rfl) (fun h => absurd h (by decide)) (fun a hF => ?_)
  refine plan_end ?_
  refine hK3 _ _ ?_; clear  hK3 K3
  apply wp_seq_k; intro K4 hK4
  refine wp_region_lit ?_
  refine vc_y hF rfl rfl (by decide) _ (y_ldRow rfl hA18.q rfl 1 rfl rw28_s7 (by rw [Prf.c_len hp]; decide) (Prf.c_all hp)) (fun a hF => ?_)
  refine vc_op rfl (fun K hK => hs_alloc hF rfl (by decide) rfl hA18 (zr28_s7) (fun b19 w20 a hb19 hF hA21 => hK _ _ ?_))
  clear hK K
  replace hA21 : Hp w0 ([row b19 28 [.bool false, .int .i64 0, .int .u8 0, .int .u8 0, .int .u8 0, .int .u8 0, .int .u8 0, .int .u8 0, .int .u8 0, .int .u8 0, .int .u8 0, .int .u8 0, .int .u8 0, .int .u8 0, .int .u8 0, .int .u8 0, .int .u8 0, .int .u8 0, .int .u8 0, .int .u8 0, .int .u8 0, .int .u8 0, .int .u8 0, .int .u8 0, .int .u8 0, .int .u8 0, .int .u8 0, .int .u8 0, .int .u8 0, .int .u8 0, .int .u8 0, .int .u8 0, .int .u8 0, .int .u8 0, .int .u8 0, .int .u8 0, .int .u8 0, .int .u8 0, .int .u8 0, .int .u8 0, .int .u8 0, .int .u8 0, .int .u8 0, .int .u8 0, .int .u8 0, .int .u8 0, .int .u8 0, .int .u8 0, .int .u8 0, .int .u8 0, .int .u8 0, .int .u8 0, .int .u8 0, .int .u8 0, .int .u8 0, .int .u8 0, .int .u8 0, .int .u8 0, .int .u8 0, .int .u8 0, .int .u8 0, .int .u8 0, .int .u8 0, .int .u8 0, .int .u8 0, .int .u8 0, .slice none 0 0]] :: [row g 23 (cel dc (p.ss ++ List.replicate 80 strangerL))] :: [row b7 28 (p.cells (.slice sA p.ss.length sC))] :: [row b4 23 (dc k)] :: [row b1 23 (dc root)] :: []) w20 := hA21
  refine vc_op rfl (fun K hK => hs_storeAll (new := p.cells (.slice sA p.ss.length sC)) hF rfl rfl hA21 rfl rfl 0 rfl (by rw [Prf.c_len hp]; rfl) (Prf.c_one rfl) sz28_s7 (fun w22 hA23 => hK _ _ ?_))
  clear hK K
  replace hA23 : Hp w0 ([row b19 28 (p.cells (.slice sA p.ss.length sC))] :: [row g 23 (cel dc (p.ss ++ List.replicate 80 strangerL))] :: [row b7 28 (p.cells (.slice sA p.ss.length sC))] :: [row b4 23 (dc k)] :: [row b1 23 (dc root)] :: []) w22 := hA23
  refine vc_nil ?_
  refine hK4 _ _ ?_; clear  hK4 K4
  apply wp_seq_k; intro K5 hK5
  have hSq : Rc w0 [[row g 23 (cel dc (p.ss ++ List.replicate 80 strangerL))]] (some ⟨g, 0, none⟩) (digV p.ss) := sp_roomR p.ss strangerL
  refine wp_region_lit ?_
  refine vc_y hF rfl rfl (by decide) _ (y_move rfl rfl) (fun a hF => ?_)
  refine vc_y hF rfl rfl (by decide) _ (y_field rfl Tryd.underlying28 rfl sz26_s7 (by decide) rfl (rfl : (⟨_, 0 + _, none⟩ : Addr) = ⟨_, 66, none⟩)) (fun a hF => ?_)
  refine vc_y hF rfl rfl (by decide) _ (y_ld rfl hA23.q rfl 2 rfl (Prf.c_sums hp) nr26_s7) (fun a hF => ?_)
  refine vc_y hF rfl rfl (by decide) _ (y_lenSl rfl Tryd.underlying26 rfl rfl) (fun a hF => ?_)
  refine vc_y hF rfl rfl (by decide) _ (y_slice rfl Tryd.underlying26 sz23_s7 rfl (.none 0) (.some rfl rfl) (Nat.zero_le _) (by omega) slice_to) (fun a hF => ?_)
  refine vc_y hF rfl rfl (by decide) _ (y_field rfl Tryd.underlying28 rfl sz26_s7 (by decide) rfl (rfl : (⟨_, 0 + _, none⟩ : Addr) = ⟨_, 66, none⟩)) (fun a hF => ?_)
  refine vc_op rfl (fun K hK => hs_store1 hF rfl rfl hA23 rfl rfl 0 rfl (by rw [Prf.c_len hp]; decide) rfl sz26_s7 (fun w24 hA25 => hK _ _ ?_))
  clear hK K
  replace hA25 : Hp w0 ([row b19 28 ((p.cells (.slice sA p.ss.length sC)).set 66 (.slice (some ⟨g, 0, none⟩) p.ss.length (p.ss.length + 80)))] :: [row g 23 (cel dc (p.ss ++ List.replicate 80 strangerL))] :: [row b7 28 (p.cells (.slice sA p.ss.length sC))] :: [row b4 23 (dc k)] :: [row b1 23 (dc root)] :: []) w24 := hA25
  have hA26 : Hp w0 ([row b19 28 (p.cells (.slice (some ⟨g, 0, none⟩) p.ss.length (p.ss.length + 80)))] :: [row g 23 (cel dc (p.ss ++ List.replicate 80 strangerL))] :: [row b7 28 (p.cells (.slice sA p.ss.length sC))] :: [row b4 23 (dc k)] :: [row b1 23 (dc root)] :: []) w24 := by rw [← Prf.c_set hp (sv := .slice sA p.ss.length sC)]; exact hA25
  refine vc_nil ?_
  refine hK5 _ _ ?_; clear  hK5 K5
  apply wp_seq_k; intro K6 hK6
  apply wp_seq_k; intro K7 hK7
  refine wp_region_plan 10 [4,9,10] [0,1,2,3,5,6,7,8,4,9,10] (fun x => Hq w0 ([row b19 28 (p.cells (.slice (some ⟨g, 0, none⟩) p.ss.length (p.ss.length + 80)))] :: [row g 23 (cel dc (p.ss ++ List.replicate 80 strangerL))] :: [row b7 28 (p.cells (.slice sA p.ss.length sC))] :: [row b4 23 (dc k)] :: [row b1 23 (dc root)] :: []) x) (by kernel_rfl) (by kernel_rfl) (Hq.drew (Hp.qp [[row b19 28 (p.cells (.slice (some ⟨g, 0, none⟩) p.ss.length (p.ss.length + 80)))], [row g 23 (cel dc (p.ss ++ List.replicate 80 strangerL))], [row b7 28 (p.cells (.slice sA p.ss.length sC))], [row b4 23 (dc k)], [row b1 23 (dc root)]] [] [0, 1, 2, 3, 4] hA26)) ?_
  have hA27 := Hl.drew hA26
  refine vp_y hF rfl rfl rfl rfl (by decide) _ (fun x hx => y_move rfl rfl) (fun a hF => ?_)
  refine vp_y hF rfl rfl rfl rfl (by decide) _ (fun x hx => y_ldRow (new := dc root) rfl hx rfl 4 rfl rw23_s7 (by rw [hdr]; exact Nat.le_refl _) (by rw [List.drop_zero]; exact List.take_of_length_le (by rw [hdr]; exact Nat.le_refl _))) (fun a hF => ?_)
  refine vp_y hF rfl rfl rfl rfl (by decide) _ (fun x hx => y_ldRow (new := dc k) rfl hx rfl 3 rfl rw23_s7 (by rw [hdk]; exact Nat.le_refl _) (by rw [List.drop_zero]; exact List.take_of_length_le (by rw [hdk]; exact Nat.le_refl _))) (fun a hF => ?_)
  refine vp_y hF rfl rfl rfl rfl (by decide) _ (fun x hx => y_ldRow rfl hx rfl 0 rfl rw28_s7 (by rw [Prf.c_len hp]; decide) (Prf.c_all hp)) (fun a hF => ?_)
  refine vp_y hF rfl rfl rfl rfl (by decide) _ (fun x hx => y_move rfl rfl) (fun a hF => ?_)
  refine vp_y hF rfl rfl rfl rfl (by decide) _ (fun x hx => y_ldRow (new := dc root) rfl hx rfl 4 rfl rw23_s7 (by rw [hdr]; exact Nat.le_refl _) (by rw [List.drop_zero]; exact List.take_of_length_le (by rw [hdr]; exact Nat.le_refl _))) (fun a hF => ?_)
  refine vp_y hF rfl rfl rfl rfl (by decide) _ (fun x hx => y_ldRow (new := dc k) rfl hx rfl 3 rfl rw23_s7 (by rw [hdk]; exact Nat.le_refl _) (by rw [List.drop_zero]; exact List.take_of_length_le (by rw [hdk]; exact Nat.le_refl _))) (fun a hF => ?_)
  refine vp_y hF rfl rfl rfl rfl (by decide) _ (fun x hx => y_ldRow rfl hx rfl 2 rfl rw28_s7 (by rw [Prf.c_len hp]; decide) (Prf.c_all hp)) (fun a hF => ?_)
  refine vp_l rfl rfl rfl (fun K hK => ws_call hF rfl (by decide) cl12_s7 rfl rfl ?_)
  with_reducible refine (sp_check w0 _ ([row b19 28 (p.cells (.slice (some ⟨g, 0, none⟩) p.ss.length (p.ss.length + 80)))] :: [row g 23 (cel dc (p.ss ++ List.replicate 80 strangerL))] :: [row b7 28 (p.cells (.slice sA p.ss.length sC))] :: [row b4 23 (dc k)] :: [row b1 23 (dc root)] :: []) [[row g 23 (cel dc (p.ss ++ List.replicate 80 strangerL))]] (sub1 (List.mem_cons_of_mem _ ((List.mem_cons_self ..)))) p (some ⟨g, 0, none⟩) (p.ss.length + 80) width root k hp hr hk hT hSq hA27 ).mono ?_
  rintro e' w28 ⟨rfl, hA29⟩
  refine ⟨_, rfl, fun a hF => hK _ _ (fun _ => ?_) ?_⟩
  · exact Hp.qp [[row b19 28 (p.cells (.slice (some ⟨g, 0, none⟩) p.ss.length (p.ss.length + 80)))], [row g 23 (cel dc (p.ss ++ List.replicate 80 strangerL))], [row b7 28 (p.cells (.slice sA p.ss.length sC))], [row b4 23 (dc k)], [row b1 23 (dc root)]] [] [0, 1, 2, 3, 4] hA29
  clear hK K
  replace hA29 : Hp w0 ([row b19 28 (p.cells (.slice (some ⟨g, 0, none⟩) p.ss.length (p.ss.length + 80)))] :: [row g 23 (cel dc (p.ss ++ List.replicate 80 strangerL))] :: [row b7 28 (p.cells (.slice sA p.ss.length sC))] :: [row b4 23 (dc k)] :: [row b1 23 (dc root)] :: []) w28 := hA29
  refine vp_l rfl rfl rfl (fun K hK => ws_call hF rfl (by decide) cl13_s7 rfl rfl ?_)
  with_reducible refine (sp_rcheck w0 _ ([row b19 28 (p.cells (.slice (some ⟨g, 0, none⟩) p.ss.length (p.ss.length + 80)))] :: [row g 23 (cel dc (p.ss ++ List.replicate 80 strangerL))] :: [row b7 28 (p.cells (.slice sA p.ss.length sC))] :: [row b4 23 (dc k)] :: [row b1 23 (dc root)] :: []) [] (List.nil_subset _) p sA sC width root k hp hr hk hS hA29 ).mono ?_
  rintro e' w30 ⟨rfl, hA31⟩
  refine ⟨_, rfl, fun a hF => hK _ _ (fun _ => ?_) ?_⟩
  · exact Hp.qp [[row b19 28 (p.cells (.slice (some ⟨g, 0, none⟩) p.ss.length (p.ss.length + 80)))], [row g 23 (cel dc (p.ss ++ List.replicate 80 strangerL))], [row b7 28 (p.cells (.slice sA p.ss.length sC))], [row b4 23 (dc k)], [row b1 23 (dc root)]] [] [0, 1, 2, 3, 4] hA31
  clear hK K
  replace hA31 : Hp w0 ([row b19 28 (p.cells (.slice (some ⟨g, 0, none⟩) p.ss.length (p.ss.length + 80)))] :: [row g 23 (cel dc (p.ss ++ List.replicate 80 strangerL))] :: [row b7 28 (p.cells (.slice sA p.ss.length sC))] :: [row b4 23 (dc k)] :: [row b1 23 (dc root)] :: []) w30 := hA31
  refine vp_ly hF rfl rfl rfl rfl (by decide) _ (y_cmp rfl rfl rfl rfl (neq_f (by omega))) (fun h => absurd h (by decide)) (fun a hF => ?_)
  refine plan_end ?_
  refine hK7 _ _ ?_; clear  hK7 K7
  refine vc_false hF rfl ?_
  apply wp_skip
  refine hK6 _ _ ?_; clear  hK6 K6
  apply wp_seq_k; intro K8 hK8
  refine wp_region_lit ?_
  refine vc_y hF rfl rfl (by decide) _ (y_move rfl rfl) (fun a hF => ?_)
  refine vc_y hF rfl rfl (by decide) _ (y_ldRow (new := dc k) rfl hA31.q rfl 3 rfl rw23_s7 (by rw [hdk]; exact Nat.le_refl _) (by rw [List.drop_zero]; exact List.take_of_length_le (by rw [hdk]; exact Nat.le_refl _))) (fun a hF => ?_)
  refine vc_y hF rfl rfl (by decide) _ (y_ldRow rfl hA31.q rfl 0 rfl rw28_s7 (by rw [Prf.c_len hp]; decide) (Prf.c_all hp)) (fun a hF => ?_)
  refine vc_op rfl (fun K hK => ws_call hF rfl (by decide) cl14_s7 rfl rfl ?_)
  with_reducible refine (sp_climb w0 _ ([row b19 28 (p.cells (.slice (some ⟨g, 0, none⟩) p.ss.length (p.ss.length + 80)))] :: [row g 23 (cel dc (p.ss ++ List.replicate 80 strangerL))] :: [row b7 28 (p.cells (.slice sA p.ss.length sC))] :: [row b4 23 (dc k)] :: [row b1 23 (dc root)] :: []) [[row g 23 (cel dc (p.ss ++ List.replicate 80 strangerL))]] (sub1 (List.mem_cons_of_mem _ ((List.mem_cons_self ..)))) p (some ⟨g, 0, none⟩) (p.ss.length + 80) width k hp hk hT hSq hA31 ).mono ?_
  rintro e' w32 ⟨ts1, tv1, XL1, rfl, hT1, hA33⟩
  refine ⟨_, rfl, fun a hF => hK _ _ ?_⟩
  clear hK K
  replace hA33 : Hp w0 (XL1 :: (txS ts1) :: [row b19 28 (p.cells (.slice (some ⟨g, 0, none⟩) p.ss.length (p.ss.length + 80)))] :: [row g 23 (cel dc (p.ss ++ List.replicate 80 strangerL))] :: [row b7 28 (p.cells (.slice sA p.ss.length sC))] :: [row b4 23 (dc k)] :: [row b1 23 (dc root)] :: []) w32 := hA33
  refine vc_y hF rfl rfl (by decide) _ (y_move rfl rfl) (fun a hF => ?_)
  refine vc_y hF rfl rfl (by decide) _ (y_extract (v := tv1) rfl rfl rfl) (fun a hF => ?_)
  refine vc_y hF rfl rfl (by decide) _ (y_extract (v := .int .i64 ((p.err width : Nat) : Int)) rfl rfl rfl) (fun a hF => ?_)
  refine vc_y hF rfl rfl (by decide) _ (y_assign rfl rfl) (fun a hF => ?_)
  refine vc_y hF rfl rfl (by decide) _ (y_assign rfl rfl) (fun a hF => ?_)
  refine vc_nil ?_
  refine hK8 _ _ ?_; clear  hK8 K8
  apply wp_seq_k; intro K9 hK9
  refine wp_region_lit ?_
  refine vc_y hF rfl rfl (by decide) _ (y_move rfl rfl) (fun a hF => ?_)
  refine vc_y hF rfl rfl (by decide) _ (y_ldRow (new := dc k) rfl hA33.q rfl 5 rfl rw23_s7 (by rw [hdk]; exact Nat.le_refl _) (by rw [List.drop_zero]; exact List.take_of_length_le (by rw [hdk]; exact Nat.le_refl _))) (fun a hF => ?_)
  refine vc_y hF rfl rfl (by decide) _ (y_ldRow rfl hA33.q rfl 4 rfl rw28_s7 (by rw [Prf.c_len hp]; decide) (Prf.c_all hp)) (fun a hF => ?_)
  refine vc_op rfl (fun K hK => ws_call hF rfl (by decide) cl15_s7 rfl rfl ?_)
  with_reducible refine (sp_rclimb w0 _ (XL1 :: (txS ts1) :: [row b19 28 (p.cells (.slice (some ⟨g, 0, none⟩) p.ss.length (p.ss.length + 80)))] :: [row g 23 (cel dc (p.ss ++ List.replicate 80 strangerL))] :: [row b7 28 (p.cells (.slice sA p.ss.length sC))] :: [row b4 23 (dc k)] :: [row b1 23 (dc root)] :: []) [] (List.nil_subset _) p sA sC width k hp hk hS hA33 ).mono ?_
  rintro e' w34 ⟨ts2, tv2, XL2, rfl, hT2, hA35⟩
  refine ⟨_, rfl, fun a hF => hK _ _ ?_⟩
  clear hK K
  replace hA35 : Hp w0 (XL2 :: (txS ts2) :: XL1 :: (txS ts1) :: [row b19 28 (p.cells (.slice (some ⟨g, 0, none⟩) p.ss.length (p.ss.length + 80)))] :: [row g 23 (cel dc (p.ss ++ List.replicate 80 strangerL))] :: [row b7 28 (p.cells (.slice sA p.ss.length sC))] :: [row b4 23 (dc k)] :: [row b1 23 (dc root)] :: []) w34 := hA35
  refine vc_y hF rfl rfl (by decide) _ (y_move rfl rfl) (fun a hF => ?_)
  refine vc_y hF rfl rfl (by decide) _ (y_extract (v := tv2) rfl rfl rfl) (fun a hF => ?_)
  refine vc_y hF rfl rfl (by decide) _ (y_extract (v := .agg (dc (p.to width k)).toArray) rfl rfl rfl) (fun a hF => ?_)
  refine vc_y hF rfl rfl (by decide) _ (y_extract (v := .int .i64 ((p.err width : Nat) : Int)) rfl rfl rfl) (fun a hF => ?_)
  refine vc_op rfl (fun K hK => hs_alloc hF rfl (by decide) rfl hA35 (zr23_s7) (fun b36 w37 a hb36 hF hA38 => hK _ _ ?_))
  clear hK K
  replace hA38 : Hp w0 ([row b36 23 (dc (List.replicate 32 0))] :: XL2 :: (txS ts2) :: XL1 :: (txS ts1) :: [row b19 28 (p.cells (.slice (some ⟨g, 0, none⟩) p.ss.length (p.ss.length + 80)))] :: [row g 23 (cel dc (p.ss ++ List.replicate 80 strangerL))] :: [row b7 28 (p.cells (.slice sA p.ss.length sC))] :: [row b4 23 (dc k)] :: [row b1 23 (dc root)] :: []) w37 := hA38
  refine vc_y hF rfl rfl (by decide) _ (y_assign rfl rfl) (fun a hF => ?_)
  refine vc_op rfl (fun K hK => hs_storeAll (new := dc (p.to width k)) hF rfl rfl hA38 rfl rfl 0 rfl (by rw [hdt]; rfl) (dc_one _) sz23_s7 (fun w39 hA40 => hK _ _ ?_))
  clear hK K
  replace hA40 : Hp w0 ([row b36 23 (dc (p.to width k))] :: XL2 :: (txS ts2) :: XL1 :: (txS ts1) :: [row b19 28 (p.cells (.slice (some ⟨g, 0, none⟩) p.ss.length (p.ss.length + 80)))] :: [row g 23 (cel dc (p.ss ++ List.replicate 80 strangerL))] :: [row b7 28 (p.cells (.slice sA p.ss.length sC))] :: [row b4 23 (dc k)] :: [row b1 23 (dc root)] :: []) w39 := hA40
  refine vc_y hF rfl rfl (by decide) _ (y_assign rfl rfl) (fun a hF => ?_)
  refine vc_nil ?_
  refine hK9 _ _ ?_; clear  hK9 K9
  apply wp_seq_k; intro K10 hK10
  apply wp_seq_k; intro K11 hK11
  have hFn := hF
  obtain ⟨pa, ca, rfl, _, hX⟩ := hT1.lst.rc (w0 := w0) (R := ([row b36 23 (dc (p.to width k))] :: XL2 :: (txS ts2) :: XL1 :: (txS ts1) :: [row b19 28 (p.cells (.slice (some ⟨g, 0, none⟩) p.ss.length (p.ss.length + 80)))] :: [row g 23 (cel dc (p.ss ++ List.replicate 80 strangerL))] :: [row b7 28 (p.cells (.slice sA p.ss.length sC))] :: [row b4 23 (dc k)] :: [row b1 23 (dc root)] :: [])) (List.mem_cons_of_mem _ (List.mem_cons_of_mem _ (List.mem_cons_of_mem _ ((List.mem_cons_self ..)))))
  obtain ⟨pb, cb, rfl, _, hY⟩ := hT2.lst.rc (w0 := w0) (R := ([row b36 23 (dc (p.to width k))] :: XL2 :: (txS ts2) :: XL1 :: (txS ts1) :: [row b19 28 (p.cells (.slice (some ⟨g, 0, none⟩) p.ss.length (p.ss.length + 80)))] :: [row g 23 (cel dc (p.ss ++ List.replicate 80 strangerL))] :: [row b7 28 (p.cells (.slice sA p.ss.length sC))] :: [row b4 23 (dc k)] :: [row b1 23 (dc root)] :: [])) (List.mem_cons_of_mem _ ((List.mem_cons_self ..)))
  have hF := hFn
  clear hFn
  have hI1 : ∀ t ∈ ts1, txIn w0 ([row b36 23 (dc (p.to width k))] :: XL2 :: (txS ts2) :: XL1 :: (txS ts1) :: [row b19 28 (p.cells (.slice (some ⟨g, 0, none⟩) p.ss.length (p.ss.length + 80)))] :: [row g 23 (cel dc (p.ss ++ List.replicate 80 strangerL))] :: [row b7 28 (p.cells (.slice sA p.ss.length sC))] :: [row b4 23 (dc k)] :: [row b1 23 (dc root)] :: []) t := txOk_in hT1.oks (List.mem_cons_of_mem _ (List.mem_cons_of_mem _ (List.mem_cons_of_mem _ (List.mem_cons_of_mem _ ((List.mem_cons_self ..))))))
  have hI2 : ∀ t ∈ ts2, txIn w0 ([row b36 23 (dc (p.to width k))] :: XL2 :: (txS ts2) :: XL1 :: (txS ts1) :: [row b19 28 (p.cells (.slice (some ⟨g, 0, none⟩) p.ss.length (p.ss.length + 80)))] :: [row g 23 (cel dc (p.ss ++ List.replicate 80 strangerL))] :: [row b7 28 (p.cells (.slice sA p.ss.length sC))] :: [row b4 23 (dc k)] :: [row b1 23 (dc root)] :: []) t := txOk_in hT2.oks (List.mem_cons_of_mem _ (List.mem_cons_of_mem _ ((List.mem_cons_self ..))))
  have hee : ts1.map (·.l) = ts2.map (·.l) := hT1.txt.trans hT2.txt.symm
  have htl : ∀ t ∈ ts1, t.l.length ≤ 9223372036854775807 := fun t ht => by obtain ⟨_, c, _, h1, h2⟩ := (hT1.bufs t ht).cap; omega
  have htn : ts1.length ≤ 9223372036854775807 := by obtain ⟨_, c, _, h1, h2⟩ := hT1.lst.cap; omega
  refine wp_region_plan 16 [6,13,14,16] [0,1,2,3,4,5,6,7,8,9,10,11,12,13,14,15,16] (fun x => Hq w0 ([row b36 23 (dc (p.to width k))] :: XL2 :: (txS ts2) :: XL1 :: (txS ts1) :: [row b19 28 (p.cells (.slice (some ⟨g, 0, none⟩) p.ss.length (p.ss.length + 80)))] :: [row g 23 (cel dc (p.ss ++ List.replicate 80 strangerL))] :: [row b7 28 (p.cells (.slice sA p.ss.length sC))] :: [row b4 23 (dc k)] :: [row b1 23 (dc root)] :: []) x) (by kernel_rfl) (by kernel_rfl) (Hq.drew (Hp.qp [[row b36 23 (dc (p.to width k))], XL2, (txS ts2), XL1, (txS ts1), [row b19 28 (p.cells (.slice (some ⟨g, 0, none⟩) p.ss.length (p.ss.length + 80)))], [row g 23 (cel dc (p.ss ++ List.replicate 80 strangerL))], [row b7 28 (p.cells (.slice sA p.ss.length sC))], [row b4 23 (dc k)], [row b1 23 (dc root)]] [] [0, 1, 2, 3, 4, 5, 6, 7, 8, 9] hA40)) ?_
  have hA41 := Hl.drew hA40
  refine vp_y hF rfl rfl rfl rfl (by decide) _ (fun x hx => y_move rfl rfl) (fun a hF => ?_)
  refine vp_y hF rfl rfl rfl rfl (by decide) _ (fun x hx => y_move rfl rfl) (fun a hF => ?_)
  refine vp_y hF rfl rfl rfl rfl (by decide) _ (fun x hx => y_cmp rfl rfl rfl rfl (neq_f (by omega))) (fun a hF => ?_)
  refine vp_y hF rfl rfl rfl rfl (by decide) _ (fun x hx => y_move rfl rfl) (fun a hF => ?_)
  refine vp_yg hF rfl rfl rfl rfl rfl rfl rfl (by decide) _ (fun x hx => y_move rfl rfl) (fun a hF => ?_)
  refine vp_yg hF rfl rfl rfl rfl rfl rfl rfl (by decide) _ (fun x hx => y_move rfl rfl) (fun a hF => ?_)
  refine vp_lg hF rfl rfl rfl rfl rfl rfl (fun K hK => ws_call hF rfl (by decide) cl16_s7 rfl rfl ?_)
  with_reducible refine (sp_sameTexts w0 _ ([row b36 23 (dc (p.to width k))] :: XL2 :: (txS ts2) :: XL1 :: (txS ts1) :: [row b19 28 (p.cells (.slice (some ⟨g, 0, none⟩) p.ss.length (p.ss.length + 80)))] :: [row g 23 (cel dc (p.ss ++ List.replicate 80 strangerL))] :: [row b7 28 (p.cells (.slice sA p.ss.length sC))] :: [row b4 23 (dc k)] :: [row b1 23 (dc root)] :: []) pa pb ts1 ts2 ca cb hI1 hI2 hX hY hee htl htn hA41 ).mono ?_
  rintro e' w42 ⟨rfl, hA43⟩
  refine ⟨_, rfl, fun a hF => hK _ _ (fun _ => ?_) ?_⟩
  · exact Hp.qp [[row b36 23 (dc (p.to width k))], XL2, (txS ts2), XL1, (txS ts1), [row b19 28 (p.cells (.slice (some ⟨g, 0, none⟩) p.ss.length (p.ss.length + 80)))], [row g 23 (cel dc (p.ss ++ List.replicate 80 strangerL))], [row b7 28 (p.cells (.slice sA p.ss.length sC))], [row b4 23 (dc k)], [row b1 23 (dc root)]] [] [0, 1, 2, 3, 4, 5, 6, 7, 8, 9] hA43
  clear hK K
  replace hA43 : Hp w0 ([row b36 23 (dc (p.to width k))] :: XL2 :: (txS ts2) :: XL1 :: (txS ts1) :: [row b19 28 (p.cells (.slice (some ⟨g, 0, none⟩) p.ss.length (p.ss.length + 80)))] :: [row g 23 (cel dc (p.ss ++ List.replicate 80 strangerL))] :: [row b7 28 (p.cells (.slice sA p.ss.length sC))] :: [row b4 23 (dc k)] :: [row b1 23 (dc root)] :: []) w42 := hA43
  refine vp_yg hF rfl rfl rfl rfl rfl rfl rfl (by decide) _ (fun x hx => y_not rfl rfl rfl) (fun a hF => ?_)
  refine vp_y hF rfl rfl rfl rfl (by decide) _ (fun x hx => y_pick rfl rfl rfl) (fun a hF => ?_)
  refine vp_y hF rfl rfl rfl rfl (by decide) _ (fun x hx => y_move rfl rfl) (fun a hF => ?_)
  refine vp_yg hF rfl rfl rfl rfl rfl rfl rfl (by decide) _ (fun x hx => y_move rfl rfl) (fun a hF => ?_)
  refine vp_yg hF rfl rfl rfl rfl rfl rfl rfl (by decide) _ (fun x hx => y_field rfl Tryd.underlying28 rfl sz26_s7 (by decide) rfl (rfl : (⟨_, 0 + _, none⟩ : Addr) = ⟨_, 66, none⟩)) (fun a hF => ?_)
  refine vp_yg hF rfl rfl rfl rfl rfl rfl rfl (by decide) _ (fun x hx => y_ld rfl hx rfl 7 rfl (Prf.c_sums hp) nr26_s7) (fun a hF => ?_)
  refine vp_lg hF rfl rfl rfl rfl rfl rfl (fun K hK => ws_call hF rfl (by decide) cl11_s7 rfl rfl ?_)
  with_reducible refine (sp_stranger w0 _ ([row b36 23 (dc (p.to width k))] :: XL2 :: (txS ts2) :: XL1 :: (txS ts1) :: [row b19 28 (p.cells (.slice (some ⟨g, 0, none⟩) p.ss.length (p.ss.length + 80)))] :: [row g 23 (cel dc (p.ss ++ List.replicate 80 strangerL))] :: [row b7 28 (p.cells (.slice sA p.ss.length sC))] :: [row b4 23 (dc k)] :: [row b1 23 (dc root)] :: []) hA43 ).mono ?_
  rintro e' w44 ⟨rfl, hA45⟩
  refine ⟨_, rfl, fun a hF => hK _ _ (fun _ => ?_) ?_⟩
  · exact Hp.qp [[row b36 23 (dc (p.to width k))], XL2, (txS ts2), XL1, (txS ts1), [row b19 28 (p.cells (.slice (some ⟨g, 0, none⟩) p.ss.length (p.ss.length + 80)))], [row g 23 (cel dc (p.ss ++ List.replicate 80 strangerL))], [row b7 28 (p.cells (.slice sA p.ss.length sC))], [row b4 23 (dc k)], [row b1 23 (dc root)]] [] [0, 1, 2, 3, 4, 5, 6, 7, 8, 9] hA45
  clear hK K
  replace hA45 : Hp w0 ([row b36 23 (dc (p.to width k))] :: XL2 :: (txS ts2) :: XL1 :: (txS ts1) :: [row b19 28 (p.cells (.slice (some ⟨g, 0, none⟩) p.ss.length (p.ss.length + 80)))] :: [row g 23 (cel dc (p.ss ++ List.replicate 80 strangerL))] :: [row b7 28 (p.cells (.slice sA p.ss.length sC))] :: [row b4 23 (dc k)] :: [row b1 23 (dc root)] :: []) w44 := hA45
  refine vp_lg hF rfl rfl rfl rfl rfl rfl (fun K hK => ws_call hF rfl (by decide) cl17_s7 rfl rfl ?_)
  with_reducible refine (kb_intact_digest w0 _ ([row b36 23 (dc (p.to width k))] :: XL2 :: (txS ts2) :: XL1 :: (txS ts1) :: [row b19 28 (p.cells (.slice (some ⟨g, 0, none⟩) p.ss.length (p.ss.length + 80)))] :: [row g 23 (cel dc (p.ss ++ List.replicate 80 strangerL))] :: [row b7 28 (p.cells (.slice sA p.ss.length sC))] :: [row b4 23 (dc k)] :: [row b1 23 (dc root)] :: []) (some ⟨g, 0, none⟩) sA p.ss (p.ss.length + 80) sC strangerL (Rc.ofRow (i := 6) (off := 0) rfl (by rw [List.drop_zero]; exact List.take_length ..)) (hS.mono (List.nil_subset _)) hl1 hy1 (Nat.le_refl _) hA45 (by omega) ).mono ?_
  rintro e' w46 ⟨rfl, hA47⟩
  refine ⟨_, rfl, fun a hF => hK _ _ (fun _ => ?_) ?_⟩
  · exact Hp.qp [[row b36 23 (dc (p.to width k))], XL2, (txS ts2), XL1, (txS ts1), [row b19 28 (p.cells (.slice (some ⟨g, 0, none⟩) p.ss.length (p.ss.length + 80)))], [row g 23 (cel dc (p.ss ++ List.replicate 80 strangerL))], [row b7 28 (p.cells (.slice sA p.ss.length sC))], [row b4 23 (dc k)], [row b1 23 (dc root)]] [] [0, 1, 2, 3, 4, 5, 6, 7, 8, 9] hA47
  clear hK K
  replace hA47 : Hp w0 ([row b36 23 (dc (p.to width k))] :: XL2 :: (txS ts2) :: XL1 :: (txS ts1) :: [row b19 28 (p.cells (.slice (some ⟨g, 0, none⟩) p.ss.length (p.ss.length + 80)))] :: [row g 23 (cel dc (p.ss ++ List.replicate 80 strangerL))] :: [row b7 28 (p.cells (.slice sA p.ss.length sC))] :: [row b4 23 (dc k)] :: [row b1 23 (dc root)] :: []) w46 := hA47
  refine vp_yg hF rfl rfl rfl rfl rfl rfl rfl (by decide) _ (fun x hx => y_not rfl rfl rfl) (fun a hF => ?_)
  refine vp_ly hF rfl rfl rfl rfl (by decide) _ (y_pick rfl rfl rfl) (fun h => absurd h (by decide)) (fun a hF => ?_)
  refine plan_end ?_
  refine hK11 _ _ ?_; clear  hK11 K11
  refine vc_false hF rfl ?_
  apply wp_skip
  refine hK10 _ _ ?_; clear  hK10 K10
  apply wp_seq_k; intro K12 hK12
  by_cases he : p.err width = 0
  · have hck : p.check width (p.to width k) k = 0 := Prf.check_ok he (by unfold Prf.to; rw [if_pos he])
    refine wp_region_lit ?_
    refine vc_y hF rfl rfl (by decide) _ (y_move rfl rfl) (fun a hF => ?_)
    refine vc_y hF rfl rfl (by decide) _ (y_cmp rfl rfl rfl rfl (neq_f (by omega))) (fun a hF => ?_)
    refine vc_y hF rfl rfl (by decide) _ (y_move rfl rfl) (fun a hF => ?_)
    refine vc_yg hF rfl rfl rfl rfl rfl (by decide) _ (y_move rfl rfl) (fun a hF => ?_)
    refine vc_yg hF rfl rfl rfl rfl rfl (by decide) _ (y_ldRow (new := dc (p.to width k)) rfl hA47.q rfl 0 rfl rw23_s7 (by rw [hdt]; exact Nat.le_refl _) (by rw [List.drop_zero]; exact List.take_of_length_le (by rw [hdt]; exact Nat.le_refl _))) (fun a hF => ?_)
    refine vc_yg hF rfl rfl rfl rfl rfl (by decide) _ (y_ldRow (new := dc k) rfl hA47.q rfl 8 rfl rw23_s7 (by rw [hdk]; exact Nat.le_refl _) (by rw [List.drop_zero]; exact List.take_of_length_le (by rw [hdk]; exact Nat.le_refl _))) (fun a hF => ?_)
    refine vc_yg hF rfl rfl rfl rfl rfl (by decide) _ (y_ldRow rfl hA47.q rfl 5 rfl rw28_s7 (by rw [Prf.c_len hp]; decide) (Prf.c_all hp)) (fun a hF => ?_)
    refine vc_opg hF rfl rfl rfl rfl (fun K hK => ws_call hF rfl (by decide) cl12_s7 rfl rfl ?_)
    with_reducible refine (sp_check w0 _ ([row b36 23 (dc (p.to width k))] :: XL2 :: (txS ts2) :: XL1 :: (txS ts1) :: [row b19 28 (p.cells (.slice (some ⟨g, 0, none⟩) p.ss.length (p.ss.length + 80)))] :: [row g 23 (cel dc (p.ss ++ List.replicate 80 strangerL))] :: [row b7 28 (p.cells (.slice sA p.ss.length sC))] :: [row b4 23 (dc k)] :: [row b1 23 (dc root)] :: []) [[row g 23 (cel dc (p.ss ++ List.replicate 80 strangerL))]] (sub1 (List.mem_cons_of_mem _ (List.mem_cons_of_mem _ (List.mem_cons_of_mem _ (List.mem_cons_of_mem _ (List.mem_cons_of_mem _ (List.mem_cons_of_mem _ ((List.mem_cons_self ..))))))))) p (some ⟨g, 0, none⟩) (p.ss.length + 80) width (p.to width k) k hp (p.to_length width k) hk hT hSq hA47 ).mono ?_
    rintro e' w48 ⟨rfl, hA49⟩
    refine ⟨_, rfl, fun a hF => hK _ _ ?_⟩
    clear hK K
    replace hA49 : Hp w0 ([row b36 23 (dc (p.to width k))] :: XL2 :: (txS ts2) :: XL1 :: (txS ts1) :: [row b19 28 (p.cells (.slice (some ⟨g, 0, none⟩) p.ss.length (p.ss.length + 80)))] :: [row g 23 (cel dc (p.ss ++ List.replicate 80 strangerL))] :: [row b7 28 (p.cells (.slice sA p.ss.length sC))] :: [row b4 23 (dc k)] :: [row b1 23 (dc root)] :: []) w48 := hA49
    refine vc_yg hF rfl rfl rfl rfl rfl (by decide) _ (y_cmp rfl rfl rfl rfl (eql_t (by omega))) (fun a hF => ?_)
    refine vc_y hF rfl rfl (by decide) _ (y_pick rfl rfl rfl) (fun a hF => ?_)
    refine vc_y hF rfl rfl (by decide) _ (y_assign rfl rfl) (fun a hF => ?_)
    refine vc_nil ?_
    refine hK12 _ _ ?_; clear  hK12 K12
    apply wp_ret
    refine vc_ret1 hF Tryd.results3 rfl ?_
    exact ⟨rfl, hA49.at0⟩
  · refine wp_region_lit ?_
    refine vc_y hF rfl rfl (by decide) _ (y_move rfl rfl) (fun a hF => ?_)
    refine vc_y hF rfl rfl (by decide) _ (y_cmp rfl rfl rfl rfl (neq_t (by omega))) (fun a hF => ?_)
    refine vc_y hF rfl rfl (by decide) _ (y_move rfl rfl) (fun a hF => ?_)
    refine vc_skip hF rfl rfl rfl rfl rfl rfl (by decide) (fun a hF => ?_)
    refine vc_skip hF rfl rfl rfl rfl rfl rfl (by decide) (fun a hF => ?_)
    refine vc_skip hF rfl rfl rfl rfl rfl rfl (by decide) (fun a hF => ?_)
    refine vc_skip hF rfl rfl rfl rfl rfl rfl (by decide) (fun a hF => ?_)
    refine vc_skip hF rfl rfl rfl rfl rfl rfl (by decide) (fun a hF => ?_)
    refine vc_skip hF rfl rfl rfl rfl rfl rfl (by decide) (fun a hF => ?_)
    refine vc_y hF rfl rfl (by decide) _ (y_pick rfl rfl rfl) (fun a hF => ?_)
    refine vc_y hF rfl rfl (by decide) _ (y_assign rfl rfl) (fun a hF => ?_)
    refine vc_nil ?_
    refine hK12 _ _ ?_; clear  hK12 K12
    apply wp_ret
    refine vc_ret1 hF Tryd.results3 rfl ?_
    exact ⟨rfl, hA47.at0⟩
end Go.Proofs.YtpomngkcfbnjoaaDoor
