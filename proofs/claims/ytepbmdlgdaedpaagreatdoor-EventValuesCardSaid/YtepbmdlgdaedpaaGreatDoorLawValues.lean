/- EventValues walked. -/
import Derived.Test.YtepbmdlgdaedpaaGreatDoorR2
namespace Go.Proofs.YtepbmdlgdaedpaaGreatDoor
open Go.RowKit Go.Dk

theorem nr23_v17 : notRow Tryz.prog 23 = true := by kernel_rfl
theorem rw25_v17 : isRow Tryz.prog 25 4 = true := by kernel_rfl
theorem sz9_v17 : (Tryz.prog.info? 9).map (·.size) = some 1 := by kernel_rfl
theorem sz23_v17 : (Tryz.prog.info? 23).map (·.size) = some 1 := by kernel_rfl
theorem sz25_v17 : (Tryz.prog.info? 25).map (·.size) = some 4 := by kernel_rfl
theorem cl15_v17 : CallsTo Tryz.prog 15 := ⟨_, Tryz.func15, by kernel_rfl, by kernel_rfl⟩
theorem cl23_v17 : CallsTo Tryz.prog 23 := ⟨_, Tryz.func23, by kernel_rfl, by kernel_rfl⟩
theorem cl25_v17 : CallsTo Tryz.prog 25 := ⟨_, Tryz.func25, by kernel_rfl, by kernel_rfl⟩
theorem cl31_v17 : CallsTo Tryz.prog 31 := ⟨_, Tryz.func31, by kernel_rfl, by kernel_rfl⟩
theorem cl35_v17 : CallsTo Tryz.prog 35 := ⟨_, Tryz.func35, by kernel_rfl, by kernel_rfl⟩
theorem cl45_v17 : CallsTo Tryz.prog 45 := ⟨_, Tryz.func45, by kernel_rfl, by kernel_rfl⟩
theorem cl46_v17 : CallsTo Tryz.prog 46 := ⟨_, Tryz.func46, by kernel_rfl, by kernel_rfl⟩
theorem cl47_v17 : CallsTo Tryz.prog 47 := ⟨_, Tryz.func47, by kernel_rfl, by kernel_rfl⟩
theorem cl48_v17 : CallsTo Tryz.prog 48 := ⟨_, Tryz.func48, by kernel_rfl, by kernel_rfl⟩
theorem cl49_v17 : CallsTo Tryz.prog 49 := ⟨_, Tryz.func49, by kernel_rfl, by kernel_rfl⟩
theorem cl50_v17 : CallsTo Tryz.prog 50 := ⟨_, Tryz.func50, by kernel_rfl, by kernel_rfl⟩
theorem cl51_v17 : CallsTo Tryz.prog 51 := ⟨_, Tryz.func51, by kernel_rfl, by kernel_rfl⟩
theorem cl52_v17 : CallsTo Tryz.prog 52 := ⟨_, Tryz.func52, by kernel_rfl, by kernel_rfl⟩
theorem cl53_v17 : CallsTo Tryz.prog 53 := ⟨_, Tryz.func53, by kernel_rfl, by kernel_rfl⟩
theorem cl54_v17 : CallsTo Tryz.prog 54 := ⟨_, Tryz.func54, by kernel_rfl, by kernel_rfl⟩

theorem zr25_v17 : zeroIs Tryz.prog 25 (.agg ([.int .i64 0, .int .i64 0, .string (⟨#[]⟩), .slice none 0 0] : List Value).toArray) := by unfold zeroIs; kernel_rfl
theorem zVA_ok {w0 : World} {G : List Seg} : VA.Ok w0 G ⟨⟨0, 0, [], []⟩, none, 0⟩ := noVA_ok
theorem ev_sameZ {w0 : World} {R : List Seg} {G : List Seg} (va : VA) (w : World) (hV : va.Ok w0 G) (hG : G ⊆ R) (hA : Hp w0 R w) : Calls Tryz.prog 25 #[.agg va.cells.toArray, .agg ([.int .i64 0, .int .i64 0, strV [], .slice none 0 0] : List Value).toArray] w fun e w' => e = .returned (.bool (decide (va.v = noVal))) ∧ Hp w0 R w' :=
  ev_sameV (H := []) va ⟨⟨0, 0, [], []⟩, none, 0⟩ w hV hG zVA_ok (List.nil_subset _) hA
theorem ev_bsP (A : Option Addr) (n c : Nat) (w : World) : (Instr.buildSlice 63 1 #[(0, .slice A n c)]).run Tryz.prog w = .ok (.slice (some ⟨w.heap.size, 0, none⟩) 1 1) (w.alloc (.cells #[.slice A n c] 27)) := by kernel_rfl
theorem ev_raw1 (w0 w : World) (R : List Seg) (wb : Nat) (l : List UInt8) (Y : Seg) (pa A1 : Option Addr) (c1 : Nat) (l1 : List UInt8) (hP : Rc w0 R pa [.slice A1 l1.length c1]) (hc : l1.length ≤ c1) (h1 : Rd w0 R A1 l1) (hY : WrS wb l Y) (hA : Hp w0 (Y :: R) w) (hl : l.length + l1.length < 140737500000000) : Calls Tryz.prog 46 #[.pointer (some ⟨wb, 0, none⟩), .slice pa 1 1] w fun e w' => ∃ Y', e = .returned (.tuple #[]) ∧ WrS wb (l ++ l1) Y' ∧ Hp w0 (Y' :: R) w' :=
  (hw_raw w0 w R wb l Y pa [(A1, c1, l1)] 1 ⟨hP, fun p hp => by rw [List.mem_singleton.1 hp]; exact ⟨hc, h1⟩⟩ hY hA (by rw [show pflat [(A1, c1, l1)] = l1 by simp [pflat]]; exact hl) (Nat.le_of_ble_eq_true rfl)).mono fun e w' ⟨Y', h1, h2, h3⟩ => ⟨Y', h1, h2.same (by simp [pflat]), h3⟩
theorem put_le (v : Val) : v.put.length ≤ 65667 := by
  by_cases h : v.right = 0
  · exact put_len h
  · rw [show v.put = [] from if_neg h]; decide
theorem pl_add {α : Type} (r : Res α) (p q y : Nat) : r.pl (p + q) y = p + r.pl q y := by
  unfold Res.pl
  split
  · cases r with
    | ok v k => show p + q + k = p + (q + k); omega
    | no e => rfl
  · rfl
theorem got_shift {α : Type} (r : List UInt8 → Res α) (d : α) (l : List UInt8) (p q y : Nat) : got r d l (p + q) y = ⟨(got r d (l.drop p) q y).v, p + (got r d (l.drop p) q y).p, (got r d (l.drop p) q y).y⟩ := by
  unfold got
  rw [List.drop_drop, pl_add]
theorem gotBody_shift (k : Nat) (l : List UInt8) (p q y : Nat) : gotBody k l (p + q) y = ⟨(gotBody k (l.drop p) q y).v, p + (gotBody k (l.drop p) q y).p, (gotBody k (l.drop p) q y).y⟩ := by
  unfold gotBody
  rw [got_shift (numR 8), got_shift flagR, got_shift (textR · 1024), got_shift (textsR · 64 1024)]
  by_cases h1 : k = 1 ∨ k = 4
  · simp only [if_pos h1]
  by_cases h2 : k = 2
  · simp only [if_neg h1, if_pos h2]
  by_cases h3 : k = 3
  · simp only [if_neg h1, if_neg h2, if_pos h3]
  by_cases h5 : k = 5
  · simp only [if_neg h1, if_neg h2, if_neg h3, if_pos h5]
  · simp only [if_neg h1, if_neg h2, if_neg h3, if_neg h5]
theorem gotVal_add (l : List UInt8) (p q y : Nat) : gotVal l (p + q) y = ⟨(gotVal (l.drop p) q y).v, p + (gotVal (l.drop p) q y).p, (gotVal (l.drop p) q y).y⟩ := by
  unfold gotVal
  rw [got_shift (numR 1)]
  simp only
  rw [gotBody_shift]
theorem gotVal_shift (l : List UInt8) (p : Nat) : gotVal l p 0 = ⟨(gotVal (l.drop p) 0 0).v, p + (gotVal (l.drop p) 0 0).p, (gotVal (l.drop p) 0 0).y⟩ := gotVal_add l p 0 0
theorem gotVal_bad (l : List UInt8) (p : Nat) {y : Nat} (h : ¬ y = 0) : gotVal l p y = ⟨noVal, p, y⟩ := by
  have h1 : got (numR 1) 0 l p y = ⟨0, p, y⟩ := by unfold got Res.val Res.pl Res.why; rw [if_neg h, if_neg h, if_neg h]
  have h2 : gotBody 0 l p y = ⟨⟨((0 : Nat) : Int), 0, [], []⟩, p, y⟩ := gotBody_0 (.inl rfl)
  exact gv_c h1 h2 h

set_option maxRecDepth 100000 in
set_option maxHeartbeats 8000000 in
theorem law_values (w0 : World) (A1 : Option Addr) (l1 : List UInt8) (c1 : Nat) (va : VA) (A2 : Option Addr) (raw : List UInt8) (c2 : Nat) (hT : TabS w0) (hV : va.Ok w0 []) (h1 : Rd w0 [] A1 l1) (hc1 : l1.length ≤ c1) (hl1 : l1.length ≤ 140737488351232) (h2 : Rd w0 [] A2 raw) (hc2 : raw.length ≤ c2) (hl2 : raw.length ≤ 140737488351232) (hs8 : va.v.s.length < 8796093022000) : Calls Tryz.prog 10 #[.slice A1 l1.length c1, .agg va.cells.toArray, .slice A2 raw.length c2] w0 fun e W' => e = .returned (.bool true) ∧ At w0 [] W' := by
  have hA : Hp w0 [] w0 := Hp.start w0
  have hn := hV.n
  refine vc_enter Tryz.func10 rfl Tryz.ntmps10 (Nat.le_of_ble_eq_true rfl) (fun a hF => ?_)
  apply wp_seq_k; intro K1 hK1
  refine wp_region_lit ?_
  refine vc_op rfl (fun K hK => hs_box (cs := [.int .i64 va.v.k, .int .i64 va.v.n, strV va.v.t, .slice va.sA va.v.s.length va.sC]) hF rfl (by decide) rfl hA rfl (fun b1 w2 a hb1 hF hA3 => hK _ _ ?_))
  clear hK K
  replace hA3 : Hp w0 ([row b1 25 [.int .i64 va.v.k, .int .i64 va.v.n, strV va.v.t, .slice va.sA va.v.s.length va.sC]] :: []) w2 := hA3
  refine vc_y hF rfl rfl (by decide) _ (y_assign rfl rfl) (fun a hF => ?_)
  refine vc_nil ?_
  refine hK1 _ _ ?_; clear  hK1 K1
  apply wp_seq_k; intro K2 hK2
  refine wp_region_lit ?_
  refine vc_op rfl (fun K hK => ws_call hF rfl (by decide) cl45_v17 rfl rfl ?_)
  with_reducible refine (hw_new w0 _ _ hA3 ).mono ?_
  rintro e' w4 ⟨wb, Y0, rfl, hY, hA5⟩
  refine ⟨_, rfl, fun a hF => hK _ _ ?_⟩
  clear hK K
  replace hA5 : Hp w0 (Y0 :: [row b1 25 [.int .i64 va.v.k, .int .i64 va.v.n, strV va.v.t, .slice va.sA va.v.s.length va.sC]] :: []) w4 := hA5
  refine vc_y hF rfl rfl (by decide) _ (y_assign rfl rfl) (fun a hF => ?_)
  refine vc_nil ?_
  refine hK2 _ _ ?_; clear  hK2 K2
  apply wp_seq_k; intro K3 hK3
  refine wp_region_lit ?_
  refine vc_y hF rfl rfl (by decide) _ (y_move rfl rfl) (fun a hF => ?_)
  refine vc_y hF rfl rfl (by decide) _ (y_move rfl rfl) (fun a hF => ?_)
  refine vc_op rfl (fun K hK => hs_bs1 (u1 := .slice A1 l1.length c1) hF rfl (by decide) rfl hA5 rfl (ev_bsP _ _ _) (fun b6 w7 a hb6 hF hA8 => hK _ _ ?_))
  clear hK K
  replace hA8 : Hp w0 ([row b6 27 [.slice A1 l1.length c1]] :: Y0 :: [row b1 25 [.int .i64 va.v.k, .int .i64 va.v.n, strV va.v.t, .slice va.sA va.v.s.length va.sC]] :: []) w7 := hA8
  have hA9 : Hp w0 (Y0 :: [row b6 27 [.slice A1 l1.length c1]] :: [row b1 25 [.int .i64 va.v.k, .int .i64 va.v.n, strV va.v.t, .slice va.sA va.v.s.length va.sC]] :: []) w7 := Hp.ord [[row b6 27 [.slice A1 l1.length c1]], Y0, [row b1 25 [.int .i64 va.v.k, .int .i64 va.v.n, strV va.v.t, .slice va.sA va.v.s.length va.sC]]] [] [1, 0, 2] hA8 rfl
  refine vc_op rfl (fun K hK => ws_call hF rfl (by decide) cl46_v17 rfl rfl ?_)
  with_reducible refine (ev_raw1 w0 _ ([row b6 27 [.slice A1 l1.length c1]] :: [row b1 25 [.int .i64 va.v.k, .int .i64 va.v.n, strV va.v.t, .slice va.sA va.v.s.length va.sC]] :: []) wb [] Y0 (some ⟨b6, 0, none⟩) A1 c1 l1 (Rc.ofRow (i := 0) (off := 0) rfl rfl) hc1 (h1.mono (List.nil_subset _)) hY hA9 (by rw [List.length_nil]; omega) ).mono ?_
  rintro e' w10 ⟨Y1, rfl, hY, hA11⟩
  refine ⟨_, rfl, fun a hF => hK _ _ ?_⟩
  clear hK K
  replace hA11 : Hp w0 (Y1 :: [row b6 27 [.slice A1 l1.length c1]] :: [row b1 25 [.int .i64 va.v.k, .int .i64 va.v.n, strV va.v.t, .slice va.sA va.v.s.length va.sC]] :: []) w10 := hA11
  rw [List.nil_append] at hY
  refine vc_nil ?_
  refine hK3 _ _ ?_; clear  hK3 K3
  apply wp_seq_k; intro K4 hK4
  refine wp_region_lit ?_
  refine vc_y hF rfl rfl (by decide) _ (y_ldRow (new := [.int .i64 va.v.k, .int .i64 va.v.n, strV va.v.t, .slice va.sA va.v.s.length va.sC]) rfl hA11.q rfl 2 rfl rw25_v17 (Nat.le_of_ble_eq_true rfl) rfl) (fun a hF => ?_)
  refine vc_op rfl (fun K hK => hs_alloc hF rfl (by decide) rfl hA11 (zr25_v17) (fun b12 w13 a hb12 hF hA14 => hK _ _ ?_))
  clear hK K
  replace hA14 : Hp w0 ([row b12 25 [.int .i64 0, .int .i64 0, .string (⟨#[]⟩), .slice none 0 0]] :: Y1 :: [row b6 27 [.slice A1 l1.length c1]] :: [row b1 25 [.int .i64 va.v.k, .int .i64 va.v.n, strV va.v.t, .slice va.sA va.v.s.length va.sC]] :: []) w13 := hA14
  refine vc_op rfl (fun K hK => hs_storeAll (new := [.int .i64 va.v.k, .int .i64 va.v.n, strV va.v.t, .slice va.sA va.v.s.length va.sC]) hF rfl rfl hA14 rfl rfl 0 rfl rfl (by simp [Value.oneCell']) sz25_v17 (fun w15 hA16 => hK _ _ ?_))
  clear hK K
  replace hA16 : Hp w0 ([row b12 25 [.int .i64 va.v.k, .int .i64 va.v.n, strV va.v.t, .slice va.sA va.v.s.length va.sC]] :: Y1 :: [row b6 27 [.slice A1 l1.length c1]] :: [row b1 25 [.int .i64 va.v.k, .int .i64 va.v.n, strV va.v.t, .slice va.sA va.v.s.length va.sC]] :: []) w15 := hA16
  refine vc_nil ?_
  refine hK4 _ _ ?_; clear  hK4 K4
  apply wp_seq_k; intro K5 hK5
  refine wp_region_plan 8 [2,8] [0,1,3,4,5,2,6,7,8] (fun x => Hq w0 ([row b12 25 [.int .i64 va.v.k, .int .i64 va.v.n, strV va.v.t, .slice va.sA va.v.s.length va.sC]] :: Y1 :: [row b6 27 [.slice A1 l1.length c1]] :: [row b1 25 [.int .i64 va.v.k, .int .i64 va.v.n, strV va.v.t, .slice va.sA va.v.s.length va.sC]] :: []) x) (by kernel_rfl) (by kernel_rfl) (Hq.drew (Hp.qp [[row b12 25 [.int .i64 va.v.k, .int .i64 va.v.n, strV va.v.t, .slice va.sA va.v.s.length va.sC]], Y1, [row b6 27 [.slice A1 l1.length c1]], [row b1 25 [.int .i64 va.v.k, .int .i64 va.v.n, strV va.v.t, .slice va.sA va.v.s.length va.sC]]] [] [0, 1, 2, 3] hA16)) ?_
  have hA17 := Hl.drew hA16
  refine vp_y hF rfl rfl rfl rfl (by decide) _ (fun x hx => y_field rfl Tryz.underlying25 rfl sz23_v17 (by decide) rfl (rfl : (⟨_, 0 + _, none⟩ : Addr) = ⟨_, 3, none⟩)) (fun a hF => ?_)
  refine vp_y hF rfl rfl rfl rfl (by decide) _ (fun x hx => y_ld rfl hx rfl 3 rfl rfl nr23_v17) (fun a hF => ?_)
  refine vp_y hF rfl rfl rfl rfl (by decide) _ (fun x hx => y_field rfl Tryz.underlying25 rfl sz23_v17 (by decide) rfl (rfl : (⟨_, 0 + _, none⟩ : Addr) = ⟨_, 3, none⟩)) (fun a hF => ?_)
  refine vp_y hF rfl rfl rfl rfl (by decide) _ (fun x hx => y_ld rfl hx rfl 3 rfl rfl nr23_v17) (fun a hF => ?_)
  refine vp_y hF rfl rfl rfl rfl (by decide) _ (fun x hx => y_lenSl rfl Tryz.underlying23 rfl rfl) (fun a hF => ?_)
  refine vp_l rfl rfl rfl (fun K hK => ws_call hF rfl (by decide) cl47_v17 rfl rfl ?_)
  with_reducible refine (kb_roomy_string w0 _ ([row b12 25 [.int .i64 va.v.k, .int .i64 va.v.n, strV va.v.t, .slice va.sA va.v.s.length va.sC]] :: Y1 :: [row b6 27 [.slice A1 l1.length c1]] :: [row b1 25 [.int .i64 va.v.k, .int .i64 va.v.n, strV va.v.t, .slice va.sA va.v.s.length va.sC]] :: []) va.sA va.v.s va.sC [109, 97, 114, 107] (by rw [← cel_str va.v.s]; exact hV.rc.mono (List.nil_subset _)) (fun _ _ => rfl) rfl hA17 hs8 ).mono ?_
  rintro e' w18 ⟨g, rfl, hA19⟩
  refine ⟨_, rfl, fun a hF => hK _ _ (fun _ => ?_) ?_⟩
  · exact Hp.qp [[row g 9 (cel cS (va.v.s ++ List.replicate 80 [109, 97, 114, 107]))], [row b12 25 [.int .i64 va.v.k, .int .i64 va.v.n, strV va.v.t, .slice va.sA va.v.s.length va.sC]], Y1, [row b6 27 [.slice A1 l1.length c1]], [row b1 25 [.int .i64 va.v.k, .int .i64 va.v.n, strV va.v.t, .slice va.sA va.v.s.length va.sC]]] [] [1, 2, 3, 4] hA19
  clear hK K
  replace hA19 : Hp w0 ([row g 9 (cel cS (va.v.s ++ List.replicate 80 [109, 97, 114, 107]))] :: [row b12 25 [.int .i64 va.v.k, .int .i64 va.v.n, strV va.v.t, .slice va.sA va.v.s.length va.sC]] :: Y1 :: [row b6 27 [.slice A1 l1.length c1]] :: [row b1 25 [.int .i64 va.v.k, .int .i64 va.v.n, strV va.v.t, .slice va.sA va.v.s.length va.sC]] :: []) w18 := hA19
  refine vp_y hF rfl rfl rfl rfl (by decide) _ (fun x hx => y_slice rfl Tryz.underlying23 sz9_v17 rfl (.none 0) (.some rfl rfl) (Nat.zero_le _) (by omega) slice_to) (fun a hF => ?_)
  refine vp_y hF rfl rfl rfl rfl (by decide) _ (fun x hx => y_field rfl Tryz.underlying25 rfl sz23_v17 (by decide) rfl (rfl : (⟨_, 0 + _, none⟩ : Addr) = ⟨_, 3, none⟩)) (fun a hF => ?_)
  refine vp_l rfl rfl rfl (fun K hK => hs_store1 hF rfl rfl hA19 rfl rfl 1 rfl (by simp) rfl sz23_v17 (fun w20 hA21 => hK _ _ (fun h => absurd h (by decide)) ?_))
  clear hK K
  replace hA21 : Hp w0 ([row g 9 (cel cS (va.v.s ++ List.replicate 80 [109, 97, 114, 107]))] :: [row b12 25 [.int .i64 va.v.k, .int .i64 va.v.n, strV va.v.t, .slice (some ⟨g, 0, none⟩) va.v.s.length (va.v.s.length + 80)]] :: Y1 :: [row b6 27 [.slice A1 l1.length c1]] :: [row b1 25 [.int .i64 va.v.k, .int .i64 va.v.n, strV va.v.t, .slice va.sA va.v.s.length va.sC]] :: []) w20 := hA21
  refine plan_end ?_
  refine hK5 _ _ ?_; clear  hK5 K5
  apply wp_seq_k; intro K6 hK6
  obtain ⟨vu, hvu⟩ : ∃ vu : VA, vu = ⟨va.v, some ⟨g, 0, none⟩, va.v.s.length + 80⟩ := ⟨_, rfl⟩
  have hUo : vu.Ok w0 [[row g 9 (cel cS (va.v.s ++ List.replicate 80 [109, 97, 114, 107]))]] := by
    subst hvu
    exact ⟨Rc.ofRow (i := 0) (off := 0) rfl (by rw [List.drop_zero, cel_str, cel_append]; exact List.take_left' rfl), hV.n, hV.i⟩
  have hUv : vu.v = va.v := by rw [hvu]
  have hU3 : Value.slice (some ⟨g, 0, none⟩) va.v.s.length (va.v.s.length + 80) = .slice vu.sA vu.v.s.length vu.sC := by rw [hvu]
  rw [hU3] at hA21
  rw [show ([.int .i64 va.v.k, .int .i64 va.v.n, strV va.v.t, .slice vu.sA vu.v.s.length vu.sC] : List Value) = [.int .i64 vu.v.k, .int .i64 vu.v.n, strV vu.v.t, .slice vu.sA vu.v.s.length vu.sC] by rw [hUv]] at hA21
  have hA22 : Hp w0 ([row g 9 (cel cS (va.v.s ++ List.replicate 80 [109, 97, 114, 107]))] :: [row b12 25 [.int .i64 vu.v.k, .int .i64 vu.v.n, strV vu.v.t, .slice vu.sA vu.v.s.length vu.sC]] :: Y1 :: [row b6 27 [.slice A1 l1.length c1]] :: [row b1 25 [.int .i64 va.v.k, .int .i64 va.v.n, strV va.v.t, .slice va.sA va.v.s.length va.sC]] :: []) w20 := hA21
  refine wp_region_lit ?_
  refine vc_y hF rfl rfl (by decide) _ (y_move rfl rfl) (fun a hF => ?_)
  refine vc_y hF rfl rfl (by decide) _ (y_ldRow (new := [.int .i64 vu.v.k, .int .i64 vu.v.n, strV vu.v.t, .slice vu.sA vu.v.s.length vu.sC]) rfl hA22.q rfl 1 rfl rw25_v17 (Nat.le_of_ble_eq_true rfl) rfl) (fun a hF => ?_)
  have hA23 : Hp w0 (Y1 :: [row g 9 (cel cS (va.v.s ++ List.replicate 80 [109, 97, 114, 107]))] :: [row b12 25 [.int .i64 vu.v.k, .int .i64 vu.v.n, strV vu.v.t, .slice vu.sA vu.v.s.length vu.sC]] :: [row b6 27 [.slice A1 l1.length c1]] :: [row b1 25 [.int .i64 va.v.k, .int .i64 va.v.n, strV va.v.t, .slice va.sA va.v.s.length va.sC]] :: []) w20 := Hp.ord [[row g 9 (cel cS (va.v.s ++ List.replicate 80 [109, 97, 114, 107]))], [row b12 25 [.int .i64 vu.v.k, .int .i64 vu.v.n, strV vu.v.t, .slice vu.sA vu.v.s.length vu.sC]], Y1, [row b6 27 [.slice A1 l1.length c1]], [row b1 25 [.int .i64 va.v.k, .int .i64 va.v.n, strV va.v.t, .slice va.sA va.v.s.length va.sC]]] [] [2, 0, 1, 3, 4] hA22 rfl
  refine vc_op rfl (fun K hK => ws_call hF rfl (by decide) cl48_v17 rfl rfl ?_)
  with_reducible refine (ev_put wb _ _ vu _ hUo (List.cons_subset.2 ⟨((List.mem_cons_self ..)), List.nil_subset _⟩) hY hA23 (by omega) ).mono ?_
  rintro e' w24 ⟨Y2, rfl, hY, hA25⟩
  refine ⟨_, rfl, fun a hF => hK _ _ ?_⟩
  clear hK K
  replace hA25 : Hp w0 (Y2 :: [row g 9 (cel cS (va.v.s ++ List.replicate 80 [109, 97, 114, 107]))] :: [row b12 25 [.int .i64 vu.v.k, .int .i64 vu.v.n, strV vu.v.t, .slice vu.sA vu.v.s.length vu.sC]] :: [row b6 27 [.slice A1 l1.length c1]] :: [row b1 25 [.int .i64 va.v.k, .int .i64 va.v.n, strV va.v.t, .slice va.sA va.v.s.length va.sC]] :: []) w24 := hA25
  rw [hUv] at hY
  refine vc_y hF rfl rfl (by decide) _ (y_assign rfl rfl) (fun a hF => ?_)
  refine vc_nil ?_
  refine hK6 _ _ ?_; clear  hK6 K6
  apply wp_seq_k; intro K7 hK7
  refine wp_region_lit ?_
  refine vc_y hF rfl rfl (by decide) _ (y_ldRow (new := [.int .i64 va.v.k, .int .i64 va.v.n, strV va.v.t, .slice va.sA va.v.s.length va.sC]) rfl hA25.q rfl 4 rfl rw25_v17 (Nat.le_of_ble_eq_true rfl) rfl) (fun a hF => ?_)
  refine vc_op rfl (fun K hK => ws_call hF rfl (by decide) cl49_v17 rfl rfl ?_)
  with_reducible refine (rv_value va _ hV (List.nil_subset _) hA25 ).mono ?_
  rintro e' w26 ⟨vv, ZV, rfl, hZV, hA27⟩
  refine ⟨_, rfl, fun a hF => hK _ _ ?_⟩
  clear hK K
  replace hA27 : Hp w0 (ZV :: Y2 :: [row g 9 (cel cS (va.v.s ++ List.replicate 80 [109, 97, 114, 107]))] :: [row b12 25 [.int .i64 vu.v.k, .int .i64 vu.v.n, strV vu.v.t, .slice vu.sA vu.v.s.length vu.sC]] :: [row b6 27 [.slice A1 l1.length c1]] :: [row b1 25 [.int .i64 va.v.k, .int .i64 va.v.n, strV va.v.t, .slice va.sA va.v.s.length va.sC]] :: []) w26 := hA27
  obtain ⟨_, AV, cV, rfl, hcV, hRV⟩ := hZV.rd (w0 := w0) (R := [ZV]) (List.mem_cons_self ..)
  have hpl := put_le va.v
  refine vc_y hF rfl rfl (by decide) _ (y_move rfl rfl) (fun a hF => ?_)
  refine vc_y hF rfl rfl (by decide) _ (y_extract (v := .slice AV va.v.put.length cV) rfl rfl rfl) (fun a hF => ?_)
  refine vc_y hF rfl rfl (by decide) _ (y_extract (v := .int .i64 ((va.v.right : Nat) : Int)) rfl rfl rfl) (fun a hF => ?_)
  refine vc_y hF rfl rfl (by decide) _ (y_assign rfl rfl) (fun a hF => ?_)
  refine vc_y hF rfl rfl (by decide) _ (y_assign rfl rfl) (fun a hF => ?_)
  refine vc_nil ?_
  refine hK7 _ _ ?_; clear  hK7 K7
  apply wp_seq_k; intro K8 hK8
  apply wp_seq_k; intro K9 hK9
  refine wp_region_plan 31 [5,7,9,10,16,29,31] [0,1,2,3,4,6,8,5,7,9,10,11,12,13,14,15,16,17,18,19,20,21,22,23,24,25,26,27,28,29,30,31] (fun x => Hq w0 (ZV :: [row g 9 (cel cS (va.v.s ++ List.replicate 80 [109, 97, 114, 107]))] :: [row b12 25 [.int .i64 vu.v.k, .int .i64 vu.v.n, strV vu.v.t, .slice vu.sA vu.v.s.length vu.sC]] :: [row b6 27 [.slice A1 l1.length c1]] :: [row b1 25 [.int .i64 va.v.k, .int .i64 va.v.n, strV va.v.t, .slice va.sA va.v.s.length va.sC]] :: []) x) (by kernel_rfl) (by kernel_rfl) (Hq.drew (Hp.qp [ZV, Y2, [row g 9 (cel cS (va.v.s ++ List.replicate 80 [109, 97, 114, 107]))], [row b12 25 [.int .i64 vu.v.k, .int .i64 vu.v.n, strV vu.v.t, .slice vu.sA vu.v.s.length vu.sC]], [row b6 27 [.slice A1 l1.length c1]], [row b1 25 [.int .i64 va.v.k, .int .i64 va.v.n, strV va.v.t, .slice va.sA va.v.s.length va.sC]]] [] [0, 2, 3, 4, 5] hA27)) ?_
  have hA28 := Hl.drew hA27
  refine vp_y hF rfl rfl rfl rfl (by decide) _ (fun x hx => y_move rfl rfl) (fun a hF => ?_)
  refine vp_y hF rfl rfl rfl rfl (by decide) _ (fun x hx => y_move rfl rfl) (fun a hF => ?_)
  refine vp_y hF rfl rfl rfl rfl (by decide) _ (fun x hx => y_cmp rfl rfl rfl rfl (neq_f (by rw [hUv]))) (fun a hF => ?_)
  refine vp_y hF rfl rfl rfl rfl (by decide) _ (fun x hx => y_move rfl rfl) (fun a hF => ?_)
  refine vp_yg hF rfl rfl rfl rfl rfl rfl rfl (by decide) _ (fun x hx => y_move rfl rfl) (fun a hF => ?_)
  refine vp_yg hF rfl rfl rfl rfl rfl rfl rfl (by decide) _ (fun x hx => y_move rfl rfl) (fun a hF => ?_)
  refine vp_yg hF rfl rfl rfl rfl rfl rfl rfl (by decide) _ (fun x hx => y_move rfl rfl) (fun a hF => ?_)
  have hA29 : Hp w0 (Y2 :: ZV :: [row g 9 (cel cS (va.v.s ++ List.replicate 80 [109, 97, 114, 107]))] :: [row b12 25 [.int .i64 vu.v.k, .int .i64 vu.v.n, strV vu.v.t, .slice vu.sA vu.v.s.length vu.sC]] :: [row b6 27 [.slice A1 l1.length c1]] :: [row b1 25 [.int .i64 va.v.k, .int .i64 va.v.n, strV va.v.t, .slice va.sA va.v.s.length va.sC]] :: []) w26.drew := Hp.ord [ZV, Y2, [row g 9 (cel cS (va.v.s ++ List.replicate 80 [109, 97, 114, 107]))], [row b12 25 [.int .i64 vu.v.k, .int .i64 vu.v.n, strV vu.v.t, .slice vu.sA vu.v.s.length vu.sC]], [row b6 27 [.slice A1 l1.length c1]], [row b1 25 [.int .i64 va.v.k, .int .i64 va.v.n, strV va.v.t, .slice va.sA va.v.s.length va.sC]]] [] [1, 0, 2, 3, 4, 5] hA28 rfl
  refine vp_lg hF rfl rfl rfl rfl rfl rfl (fun K hK => ws_call hF rfl (by decide) cl50_v17 rfl rfl ?_)
  with_reducible refine (hw_all w0 _ (ZV :: [row g 9 (cel cS (va.v.s ++ List.replicate 80 [109, 97, 114, 107]))] :: [row b12 25 [.int .i64 vu.v.k, .int .i64 vu.v.n, strV vu.v.t, .slice vu.sA vu.v.s.length vu.sC]] :: [row b6 27 [.slice A1 l1.length c1]] :: [row b1 25 [.int .i64 va.v.k, .int .i64 va.v.n, strV va.v.t, .slice va.sA va.v.s.length va.sC]] :: []) wb _ _ hY hA29 (by rw [List.length_append]; omega) ).mono ?_
  rintro e' w30 ⟨vA, ZA, Y3, rfl, hZA, hY3, hA31⟩
  refine ⟨_, rfl, fun a hF => hK _ _ (fun _ => ?_) ?_⟩
  · exact Hp.qp [ZA, Y3, ZV, [row g 9 (cel cS (va.v.s ++ List.replicate 80 [109, 97, 114, 107]))], [row b12 25 [.int .i64 vu.v.k, .int .i64 vu.v.n, strV vu.v.t, .slice vu.sA vu.v.s.length vu.sC]], [row b6 27 [.slice A1 l1.length c1]], [row b1 25 [.int .i64 va.v.k, .int .i64 va.v.n, strV va.v.t, .slice va.sA va.v.s.length va.sC]]] [] [2, 3, 4, 5, 6] hA31
  clear hK K
  replace hA31 : Hp w0 (ZA :: Y3 :: ZV :: [row g 9 (cel cS (va.v.s ++ List.replicate 80 [109, 97, 114, 107]))] :: [row b12 25 [.int .i64 vu.v.k, .int .i64 vu.v.n, strV vu.v.t, .slice vu.sA vu.v.s.length vu.sC]] :: [row b6 27 [.slice A1 l1.length c1]] :: [row b1 25 [.int .i64 va.v.k, .int .i64 va.v.n, strV va.v.t, .slice va.sA va.v.s.length va.sC]] :: []) w30 := hA31
  obtain ⟨_, AA, cA, rfl, hcA, hRA⟩ := hZA.rd (w0 := w0) (R := [ZA]) (List.mem_cons_self ..)
  have hA32 : Hp w0 (([] : Seg) :: ZA :: Y3 :: ZV :: [row g 9 (cel cS (va.v.s ++ List.replicate 80 [109, 97, 114, 107]))] :: [row b12 25 [.int .i64 vu.v.k, .int .i64 vu.v.n, strV vu.v.t, .slice vu.sA vu.v.s.length vu.sC]] :: [row b6 27 [.slice A1 l1.length c1]] :: [row b1 25 [.int .i64 va.v.k, .int .i64 va.v.n, strV va.v.t, .slice va.sA va.v.s.length va.sC]] :: []) w30 := Hp.nil hA31
  refine vp_lg hF rfl rfl rfl rfl rfl rfl (fun K hK => hs_append hF rfl (by decide) rfl hA32 0 rfl (Buf.nil 5 1) Tryz.underlying27 ow_elem5 rfl rfl (Rc.src h1 (Hq.sub hA32.q (List.nil_subset _)) Tryz.underlying27) (by omega) (by decide) (fun v2 X2 w33 a hO2 hF hA34 => hK _ _ (fun _ => ?_) ?_))
  · exact Hp.qp [X2, ZA, Y3, ZV, [row g 9 (cel cS (va.v.s ++ List.replicate 80 [109, 97, 114, 107]))], [row b12 25 [.int .i64 vu.v.k, .int .i64 vu.v.n, strV vu.v.t, .slice vu.sA vu.v.s.length vu.sC]], [row b6 27 [.slice A1 l1.length c1]], [row b1 25 [.int .i64 va.v.k, .int .i64 va.v.n, strV va.v.t, .slice va.sA va.v.s.length va.sC]]] [] [3, 4, 5, 6, 7] hA34
  clear hK K
  replace hA34 : Hp w0 (X2 :: ZA :: Y3 :: ZV :: [row g 9 (cel cS (va.v.s ++ List.replicate 80 [109, 97, 114, 107]))] :: [row b12 25 [.int .i64 vu.v.k, .int .i64 vu.v.n, strV vu.v.t, .slice vu.sA vu.v.s.length vu.sC]] :: [row b6 27 [.slice A1 l1.length c1]] :: [row b1 25 [.int .i64 va.v.k, .int .i64 va.v.n, strV va.v.t, .slice va.sA va.v.s.length va.sC]] :: []) w33 := hA34
  rw [List.nil_append, Nat.zero_add] at hO2
  refine vp_lg hF rfl rfl rfl rfl rfl rfl (fun K hK => hs_append hF rfl (by decide) rfl hA34 0 rfl hO2 Tryz.underlying27 ow_elem5 rfl rfl (Rc.src hRV (Hq.sub hA34.q (List.cons_subset.2 ⟨(List.mem_cons_of_mem _ (List.mem_cons_of_mem _ (List.mem_cons_of_mem _ ((List.mem_cons_self ..))))), List.nil_subset _⟩)) Tryz.underlying27) (by omega) (by decide) (fun v3 X3 w35 a hO3 hF hA36 => hK _ _ (fun _ => ?_) ?_))
  · exact Hp.qp [X3, ZA, Y3, ZV, [row g 9 (cel cS (va.v.s ++ List.replicate 80 [109, 97, 114, 107]))], [row b12 25 [.int .i64 vu.v.k, .int .i64 vu.v.n, strV vu.v.t, .slice vu.sA vu.v.s.length vu.sC]], [row b6 27 [.slice A1 l1.length c1]], [row b1 25 [.int .i64 va.v.k, .int .i64 va.v.n, strV va.v.t, .slice va.sA va.v.s.length va.sC]]] [] [3, 4, 5, 6, 7] hA36
  clear hK K
  replace hA36 : Hp w0 (X3 :: ZA :: Y3 :: ZV :: [row g 9 (cel cS (va.v.s ++ List.replicate 80 [109, 97, 114, 107]))] :: [row b12 25 [.int .i64 vu.v.k, .int .i64 vu.v.n, strV vu.v.t, .slice vu.sA vu.v.s.length vu.sC]] :: [row b6 27 [.slice A1 l1.length c1]] :: [row b1 25 [.int .i64 va.v.k, .int .i64 va.v.n, strV va.v.t, .slice va.sA va.v.s.length va.sC]] :: []) w35 := hA36
  replace hO3 : Buf 5 1 X3 v3 (l1 ++ va.v.put).length (dc (l1 ++ va.v.put)) := by rw [dc_append, List.length_append]; exact hO3
  obtain ⟨_, A4, c4, rfl, hc4, hR4⟩ := hO3.rd (w0 := w0) (R := [X3]) (List.mem_cons_self ..)
  refine vp_lg hF rfl rfl rfl rfl rfl rfl (fun K hK => ws_call hF rfl (by decide) cl23_v17 rfl rfl ?_)
  with_reducible refine (ev_sameB (l1 := l1 ++ va.v.put) (l2 := l1 ++ va.v.put) _ (Rc.mono hRA (List.cons_subset.2 ⟨(List.mem_cons_of_mem _ ((List.mem_cons_self ..))), List.nil_subset _⟩)) (Rc.mono hR4 (List.cons_subset.2 ⟨((List.mem_cons_self ..)), List.nil_subset _⟩)) (by rw [List.length_append]; omega) hA36 ).mono ?_
  rintro e' w37 ⟨rfl, hA38⟩
  refine ⟨_, rfl, fun a hF => hK _ _ (fun _ => ?_) ?_⟩
  · exact Hp.qp [X3, ZA, Y3, ZV, [row g 9 (cel cS (va.v.s ++ List.replicate 80 [109, 97, 114, 107]))], [row b12 25 [.int .i64 vu.v.k, .int .i64 vu.v.n, strV vu.v.t, .slice vu.sA vu.v.s.length vu.sC]], [row b6 27 [.slice A1 l1.length c1]], [row b1 25 [.int .i64 va.v.k, .int .i64 va.v.n, strV va.v.t, .slice va.sA va.v.s.length va.sC]]] [] [3, 4, 5, 6, 7] hA38
  clear hK K
  replace hA38 : Hp w0 (X3 :: ZA :: Y3 :: ZV :: [row g 9 (cel cS (va.v.s ++ List.replicate 80 [109, 97, 114, 107]))] :: [row b12 25 [.int .i64 vu.v.k, .int .i64 vu.v.n, strV vu.v.t, .slice vu.sA vu.v.s.length vu.sC]] :: [row b6 27 [.slice A1 l1.length c1]] :: [row b1 25 [.int .i64 va.v.k, .int .i64 va.v.n, strV va.v.t, .slice va.sA va.v.s.length va.sC]] :: []) w37 := hA38
  rw [decide_eq_true rfl] at hF
  refine vp_yg hF rfl rfl rfl rfl rfl rfl rfl (by decide) _ (fun x hx => y_not rfl rfl rfl) (fun a hF => ?_)
  refine vp_y hF rfl rfl rfl rfl (by decide) _ (fun x hx => y_pick rfl rfl rfl) (fun a hF => ?_)
  refine vp_y hF rfl rfl rfl rfl (by decide) _ (fun x hx => y_move rfl rfl) (fun a hF => ?_)
  refine vp_yg hF rfl rfl rfl rfl rfl rfl rfl (by decide) _ (fun x hx => y_ldRow (new := [.int .i64 vu.v.k, .int .i64 vu.v.n, strV vu.v.t, .slice vu.sA vu.v.s.length vu.sC]) rfl hx rfl 2 rfl rw25_v17 (Nat.le_of_ble_eq_true rfl) rfl) (fun a hF => ?_)
  refine vp_yg hF rfl rfl rfl rfl rfl rfl rfl (by decide) _ (fun x hx => y_ldRow (new := [.int .i64 va.v.k, .int .i64 va.v.n, strV va.v.t, .slice va.sA va.v.s.length va.sC]) rfl hx rfl 4 rfl rw25_v17 (Nat.le_of_ble_eq_true rfl) rfl) (fun a hF => ?_)
  refine vp_lg hF rfl rfl rfl rfl rfl rfl (fun K hK => ws_call hF rfl (by decide) cl25_v17 rfl rfl ?_)
  with_reducible refine (ev_sameV vu va _ hUo (List.cons_subset.2 ⟨(List.mem_cons_of_mem _ (List.mem_cons_of_mem _ (List.mem_cons_of_mem _ (List.mem_cons_of_mem _ ((List.mem_cons_self ..)))))), List.nil_subset _⟩) hV (List.nil_subset _) hA38 ).mono ?_
  rintro e' w39 ⟨rfl, hA40⟩
  refine ⟨_, rfl, fun a hF => hK _ _ (fun _ => ?_) ?_⟩
  · exact Hp.qp [X3, ZA, Y3, ZV, [row g 9 (cel cS (va.v.s ++ List.replicate 80 [109, 97, 114, 107]))], [row b12 25 [.int .i64 vu.v.k, .int .i64 vu.v.n, strV vu.v.t, .slice vu.sA vu.v.s.length vu.sC]], [row b6 27 [.slice A1 l1.length c1]], [row b1 25 [.int .i64 va.v.k, .int .i64 va.v.n, strV va.v.t, .slice va.sA va.v.s.length va.sC]]] [] [3, 4, 5, 6, 7] hA40
  clear hK K
  replace hA40 : Hp w0 (X3 :: ZA :: Y3 :: ZV :: [row g 9 (cel cS (va.v.s ++ List.replicate 80 [109, 97, 114, 107]))] :: [row b12 25 [.int .i64 vu.v.k, .int .i64 vu.v.n, strV vu.v.t, .slice vu.sA vu.v.s.length vu.sC]] :: [row b6 27 [.slice A1 l1.length c1]] :: [row b1 25 [.int .i64 va.v.k, .int .i64 va.v.n, strV va.v.t, .slice va.sA va.v.s.length va.sC]] :: []) w39 := hA40
  rw [decide_eq_true hUv] at hF
  refine vp_yg hF rfl rfl rfl rfl rfl rfl rfl (by decide) _ (fun x hx => y_not rfl rfl rfl) (fun a hF => ?_)
  refine vp_y hF rfl rfl rfl rfl (by decide) _ (fun x hx => y_pick rfl rfl rfl) (fun a hF => ?_)
  refine vp_y hF rfl rfl rfl rfl (by decide) _ (fun x hx => y_move rfl rfl) (fun a hF => ?_)
  refine vp_yg hF rfl rfl rfl rfl rfl rfl rfl (by decide) _ (fun x hx => y_field rfl Tryz.underlying25 rfl sz23_v17 (by decide) rfl (rfl : (⟨_, 0 + _, none⟩ : Addr) = ⟨_, 3, none⟩)) (fun a hF => ?_)
  refine vp_yg hF rfl rfl rfl rfl rfl rfl rfl (by decide) _ (fun x hx => y_ld rfl hx rfl 2 rfl rfl nr23_v17) (fun a hF => ?_)
  refine vp_yg hF rfl rfl rfl rfl rfl rfl rfl (by decide) _ (fun x hx => y_field rfl Tryz.underlying25 rfl sz23_v17 (by decide) rfl (rfl : (⟨_, 0 + _, none⟩ : Addr) = ⟨_, 3, none⟩)) (fun a hF => ?_)
  refine vp_yg hF rfl rfl rfl rfl rfl rfl rfl (by decide) _ (fun x hx => y_ld rfl hx rfl 4 rfl rfl nr23_v17) (fun a hF => ?_)
  refine vp_yg hF rfl rfl rfl rfl rfl rfl rfl (by decide) _ (fun x hx => y_lenSl rfl Tryz.underlying23 rfl rfl) (fun a hF => ?_)
  refine vp_yg hF rfl rfl rfl rfl rfl rfl rfl (by decide) _ (fun x hx => y_add rfl rfl rfl (IntWalk.i64_in _ (by omega))) (fun a hF => ?_)
  refine vp_yg hF rfl rfl rfl rfl rfl rfl rfl (by decide) _ (fun x hx => y_slice rfl Tryz.underlying23 sz9_v17 rfl (.none 0) (.some rfl rfl) (Nat.zero_le _) (by rw [hvu]; exact Nat.le_refl _) (show Value.slice (sub vu.sA 0 vu.sC 1) (va.v.s.length + 80 - 0) (vu.sC - 0) = .slice (some ⟨g, 0, none⟩) (va.v.s.length + 80) (va.v.s.length + 80) by rw [hvu, sub_zero]; rfl)) (fun a hF => ?_)
  refine vp_yg hF rfl rfl rfl rfl rfl rfl rfl (by decide) _ (fun x hx => y_field rfl Tryz.underlying25 rfl sz23_v17 (by decide) rfl (rfl : (⟨_, 0 + _, none⟩ : Addr) = ⟨_, 3, none⟩)) (fun a hF => ?_)
  refine vp_yg hF rfl rfl rfl rfl rfl rfl rfl (by decide) _ (fun x hx => y_ld rfl hx rfl 4 rfl rfl nr23_v17) (fun a hF => ?_)
  refine vp_lg hF rfl rfl rfl rfl rfl rfl (fun K hK => ws_call hF rfl (by decide) cl51_v17 rfl rfl ?_)
  with_reducible refine (kb_intact_string w0 _ (X3 :: ZA :: Y3 :: ZV :: [row g 9 (cel cS (va.v.s ++ List.replicate 80 [109, 97, 114, 107]))] :: [row b12 25 [.int .i64 vu.v.k, .int .i64 vu.v.n, strV vu.v.t, .slice vu.sA vu.v.s.length vu.sC]] :: [row b6 27 [.slice A1 l1.length c1]] :: [row b1 25 [.int .i64 va.v.k, .int .i64 va.v.n, strV va.v.t, .slice va.sA va.v.s.length va.sC]] :: []) (some ⟨g, 0, none⟩) va.sA va.v.s (va.v.s.length + 80) va.sC [109, 97, 114, 107] (Rc.ofRow (i := 4) (off := 0) rfl (by rw [List.drop_zero]; exact List.take_length ..)) (by rw [← cel_str va.v.s]; exact hV.rc.mono (List.nil_subset _)) (fun _ _ => rfl) rfl (Nat.le_refl _) hA40 hs8 ).mono ?_
  rintro e' w41 ⟨rfl, hA42⟩
  refine ⟨_, rfl, fun a hF => hK _ _ (fun _ => ?_) ?_⟩
  · exact Hp.qp [X3, ZA, Y3, ZV, [row g 9 (cel cS (va.v.s ++ List.replicate 80 [109, 97, 114, 107]))], [row b12 25 [.int .i64 vu.v.k, .int .i64 vu.v.n, strV vu.v.t, .slice vu.sA vu.v.s.length vu.sC]], [row b6 27 [.slice A1 l1.length c1]], [row b1 25 [.int .i64 va.v.k, .int .i64 va.v.n, strV va.v.t, .slice va.sA va.v.s.length va.sC]]] [] [3, 4, 5, 6, 7] hA42
  clear hK K
  replace hA42 : Hp w0 (X3 :: ZA :: Y3 :: ZV :: [row g 9 (cel cS (va.v.s ++ List.replicate 80 [109, 97, 114, 107]))] :: [row b12 25 [.int .i64 vu.v.k, .int .i64 vu.v.n, strV vu.v.t, .slice vu.sA vu.v.s.length vu.sC]] :: [row b6 27 [.slice A1 l1.length c1]] :: [row b1 25 [.int .i64 va.v.k, .int .i64 va.v.n, strV va.v.t, .slice va.sA va.v.s.length va.sC]] :: []) w41 := hA42
  refine vp_yg hF rfl rfl rfl rfl rfl rfl rfl (by decide) _ (fun x hx => y_not rfl rfl rfl) (fun a hF => ?_)
  refine vp_ly hF rfl rfl rfl rfl (by decide) _ (y_pick rfl rfl rfl) (fun h => absurd h (by decide)) (fun a hF => ?_)
  refine plan_end ?_
  refine hK9 _ _ ?_; clear  hK9 K9
  refine vc_false hF rfl ?_
  have hA43 : Hp w0 ([]) w41 := Hp.sel [X3, ZA, Y3, ZV, [row g 9 (cel cS (va.v.s ++ List.replicate 80 [109, 97, 114, 107]))], [row b12 25 [.int .i64 vu.v.k, .int .i64 vu.v.n, strV vu.v.t, .slice vu.sA vu.v.s.length vu.sC]], [row b6 27 [.slice A1 l1.length c1]], [row b1 25 [.int .i64 va.v.k, .int .i64 va.v.n, strV va.v.t, .slice va.sA va.v.s.length va.sC]]] [] [] [0, 1, 2, 3, 4, 5, 6, 7] hA42 rfl
  apply wp_skip
  refine hK8 _ _ ?_; clear  hK8 K8
  apply wp_seq_k; intro K10 hK10
  refine wp_region_lit ?_
  refine vc_y hF rfl rfl (by decide) _ (y_move rfl rfl) (fun a hF => ?_)
  refine vc_op rfl (fun K hK => ws_call hF rfl (by decide) cl31_v17 rfl rfl ?_)
  with_reducible refine (hr_read w0 _ [] A2 raw c2 (h2.mono (List.nil_subset _)) hA43 (by omega) ).mono ?_
  rintro e' w44 ⟨rb, A0, c0, X, rfl, hO, hA45⟩
  refine ⟨_, rfl, fun a hF => hK _ _ ?_⟩
  clear hK K
  replace hA45 : Hp w0 ([row rb 152 [.slice A0 raw.length c0, .int .i64 ((0 : Nat) : Int), .int .i64 ((0 : Nat) : Int)]] :: X :: []) w44 := hA45
  refine vc_y hF rfl rfl (by decide) _ (y_assign rfl rfl) (fun a hF => ?_)
  refine vc_nil ?_
  refine hK10 _ _ ?_; clear  hK10 K10
  apply wp_seq_k; intro K11 hK11
  refine wp_region_lit ?_
  refine vc_y hF rfl rfl (by decide) _ (y_move rfl rfl) (fun a hF => ?_)
  refine vc_y hF rfl rfl (by decide) _ (y_assign rfl rfl) (fun a hF => ?_)
  refine vc_nil ?_
  refine hK11 _ _ ?_; clear  hK11 K11
  apply wp_seq_k; intro K12 hK12
  refine wp_region_lit ?_
  refine vc_y hF rfl rfl (by decide) _ (y_assign rfl rfl) (fun a hF => ?_)
  refine vc_nil ?_
  refine hK12 _ _ ?_; clear  hK12 K12
  apply wp_seq_k; intro K13 hK13
  apply wp_seq_k; intro K14 hK14
  refine wp_region_lit ?_
  refine vc_y hF rfl rfl (by decide) _ (y_assign rfl rfl) (fun a hF => ?_)
  refine vc_nil ?_
  refine hK14 _ _ ?_; clear  hK14 K14
  apply wp_block
  refine vc_loop (G := Nat) (fun i a x => ∃ (p : Nat) (y : Nat) (AR : Option Addr) (cR : Nat), i ≤ 2 ∧ p ≤ raw.length ∧ (raw.drop p).length ≤ cR ∧ Rd w0 [] AR (raw.drop p) ∧ Fr 144 [(15, .int .i64 (i : Int)), (14, .int .i64 (y : Nat)), (13, .slice AR (raw.drop p).length cR), (12, .pointer (some ⟨rb, 0, none⟩))] a ∧ Hp w0 ([row rb 152 [.slice A0 raw.length c0, .int .i64 ((p : Nat) : Int), .int .i64 ((y : Nat) : Int)]] :: X :: []) x) (fun i => 2 - i) 0 (⟨0, 0, A2, c2, (by decide), Nat.zero_le _, (by rw [List.drop_zero]; exact hc2), (by rw [List.drop_zero]; exact h2), hF.keep [15, 14, 13, 12] rfl, hA45⟩) ?_
  clear hF
  rintro i a w47 ⟨p, y, AR, cR, hi, hp, hcR, hRR, hF, hA46⟩
  apply wp_seq_k; intro K15 hK15
  apply wp_seq_k; intro K16 hK16
  refine wp_region_lit ?_
  refine vc_y hF rfl rfl (by decide) _ (y_move rfl rfl) (fun a hF => ?_)
  refine vc_y hF rfl rfl (by decide) _ (y_cmp rfl rfl rfl rfl rfl) (fun a hF => ?_)
  refine vc_nil ?_
  refine hK16 _ _ ?_; clear  hK16 K16
  by_cases hlt : i < 2
  · refine vc_trueB hF rfl (lss_t (by omega)) ?_
    have hdl : (raw.drop p).length = raw.length - p := List.length_drop
    apply wp_skip
    refine hK15 _ _ ?_; clear  hK15 K15
    apply wp_seq_k; intro K17 hK17
    apply wp_block
    apply wp_seq_k; intro K18 hK18
    refine wp_region_lit ?_
    refine vc_y hF rfl rfl (by decide) _ (y_move rfl rfl) (fun a hF => ?_)
    refine vc_op rfl (fun K hK => ws_call hF rfl (by decide) cl35_v17 rfl rfl ?_)
    with_reducible refine (ev_take w0 _ [] rb A0 raw c0 p y X hO hA46 hp (by omega) ).mono ?_
    rintro e' w48 ⟨vt, ZT, rfl, hvtv, hvt, hp2, hA49⟩
    refine ⟨_, rfl, fun a hF => hK _ _ ?_⟩
    clear hK K
    replace hA49 : Hp w0 (ZT :: [row rb 152 [.slice A0 raw.length c0, .int .i64 (((gotVal raw p y).p : Nat) : Int), .int .i64 (((gotVal raw p y).y : Nat) : Int)]] :: X :: []) w48 := hA49
    refine vc_y hF rfl rfl (by decide) _ (y_move rfl rfl) (fun a hF => ?_)
    refine vc_y hF rfl rfl (by decide) _ (y_extract (v := .agg ([.int .i64 vt.v.k, .int .i64 vt.v.n, strV vt.v.t, .slice vt.sA vt.v.s.length vt.sC]).toArray) rfl rfl rfl) (fun a hF => ?_)
    refine vc_y hF rfl rfl (by decide) _ (y_extract (v := .int .i64 (((gotVal raw p y).y : Nat) : Int)) rfl rfl rfl) (fun a hF => ?_)
    refine vc_op rfl (fun K hK => hs_alloc hF rfl (by decide) rfl hA49 (zr25_v17) (fun b50 w51 a hb50 hF hA52 => hK _ _ ?_))
    clear hK K
    replace hA52 : Hp w0 ([row b50 25 [.int .i64 0, .int .i64 0, .string (⟨#[]⟩), .slice none 0 0]] :: ZT :: [row rb 152 [.slice A0 raw.length c0, .int .i64 (((gotVal raw p y).p : Nat) : Int), .int .i64 (((gotVal raw p y).y : Nat) : Int)]] :: X :: []) w51 := hA52
    refine vc_op rfl (fun K hK => hs_storeAll (new := [.int .i64 vt.v.k, .int .i64 vt.v.n, strV vt.v.t, .slice vt.sA vt.v.s.length vt.sC]) hF rfl rfl hA52 rfl rfl 0 rfl rfl (by simp [Value.oneCell']) sz25_v17 (fun w53 hA54 => hK _ _ ?_))
    clear hK K
    replace hA54 : Hp w0 ([row b50 25 [.int .i64 vt.v.k, .int .i64 vt.v.n, strV vt.v.t, .slice vt.sA vt.v.s.length vt.sC]] :: ZT :: [row rb 152 [.slice A0 raw.length c0, .int .i64 (((gotVal raw p y).p : Nat) : Int), .int .i64 (((gotVal raw p y).y : Nat) : Int)]] :: X :: []) w53 := hA54
    refine vc_y hF rfl rfl (by decide) _ (y_assign rfl rfl) (fun a hF => ?_)
    refine vc_nil ?_
    refine hK18 _ _ ?_; clear  hK18 K18
    apply wp_seq_k; intro K19 hK19
    apply wp_seq_k; intro K20 hK20
    refine wp_region_lit ?_
    refine vc_y hF rfl rfl (by decide) _ (y_move rfl rfl) (fun a hF => ?_)
    refine vc_y hF rfl rfl (by decide) _ (y_cmp rfl rfl rfl rfl rfl) (fun a hF => ?_)
    refine vc_nil ?_
    refine hK20 _ _ ?_; clear  hK20 K20
    by_cases hy : y = 0
    · refine vc_falseB hF rfl (neq_f (by omega)) ?_
      subst hy
      have hsh := gotVal_shift raw p
      apply wp_skip
      refine hK19 _ _ ?_; clear  hK19 K19
      apply wp_seq_k; intro K21 hK21
      refine wp_region_lit ?_
      refine vc_y hF rfl rfl (by decide) _ (y_move rfl rfl) (fun a hF => ?_)
      refine vc_op rfl (fun K hK => ws_call hF rfl (by decide) cl54_v17 rfl rfl ?_)
      with_reducible refine (rv_take AR (raw.drop p) cR _ hRR hcR (by omega) (List.nil_subset _) hA54 ).mono ?_
      rintro e' w55 ⟨vr, ZR, rfl, hvrv, hvr, hn2, hA56⟩
      refine ⟨_, rfl, fun a hF => hK _ _ ?_⟩
      clear hK K
      replace hA56 : Hp w0 (ZR :: [row b50 25 [.int .i64 vt.v.k, .int .i64 vt.v.n, strV vt.v.t, .slice vt.sA vt.v.s.length vt.sC]] :: ZT :: [row rb 152 [.slice A0 raw.length c0, .int .i64 (((gotVal raw p 0).p : Nat) : Int), .int .i64 (((gotVal raw p 0).y : Nat) : Int)]] :: X :: []) w55 := hA56
      have hvv : vt.v = vr.v := by rw [hvtv, hvrv, hsh]
      obtain ⟨n2, hn2e⟩ : ∃ n2, n2 = (gotVal (raw.drop p) 0 0).p := ⟨_, rfl⟩
      obtain ⟨y2, hy2e⟩ : ∃ y2, y2 = (gotVal (raw.drop p) 0 0).y := ⟨_, rfl⟩
      have hpe : (gotVal raw p 0).p = p + n2 := by rw [hsh, hn2e]
      have hye : (gotVal raw p 0).y = y2 := by rw [hsh, hy2e]
      rw [← hn2e] at hn2
      rw [← hn2e, ← hy2e] at hF
      refine vc_y hF rfl rfl (by decide) _ (y_move rfl rfl) (fun a hF => ?_)
      refine vc_y hF rfl rfl (by decide) _ (y_extract (v := .agg ([.int .i64 vr.v.k, .int .i64 vr.v.n, strV vr.v.t, .slice vr.sA vr.v.s.length vr.sC]).toArray) rfl rfl rfl) (fun a hF => ?_)
      refine vc_y hF rfl rfl (by decide) _ (y_extract (v := .int .i64 ((n2 : Nat) : Int)) rfl rfl rfl) (fun a hF => ?_)
      refine vc_y hF rfl rfl (by decide) _ (y_extract (v := .int .i64 ((y2 : Nat) : Int)) rfl rfl rfl) (fun a hF => ?_)
      refine vc_op rfl (fun K hK => hs_alloc hF rfl (by decide) rfl hA56 (zr25_v17) (fun b57 w58 a hb57 hF hA59 => hK _ _ ?_))
      clear hK K
      replace hA59 : Hp w0 ([row b57 25 [.int .i64 0, .int .i64 0, .string (⟨#[]⟩), .slice none 0 0]] :: ZR :: [row b50 25 [.int .i64 vt.v.k, .int .i64 vt.v.n, strV vt.v.t, .slice vt.sA vt.v.s.length vt.sC]] :: ZT :: [row rb 152 [.slice A0 raw.length c0, .int .i64 (((gotVal raw p 0).p : Nat) : Int), .int .i64 (((gotVal raw p 0).y : Nat) : Int)]] :: X :: []) w58 := hA59
      refine vc_op rfl (fun K hK => hs_storeAll (new := [.int .i64 vr.v.k, .int .i64 vr.v.n, strV vr.v.t, .slice vr.sA vr.v.s.length vr.sC]) hF rfl rfl hA59 rfl rfl 0 rfl rfl (by simp [Value.oneCell']) sz25_v17 (fun w60 hA61 => hK _ _ ?_))
      clear hK K
      replace hA61 : Hp w0 ([row b57 25 [.int .i64 vr.v.k, .int .i64 vr.v.n, strV vr.v.t, .slice vr.sA vr.v.s.length vr.sC]] :: ZR :: [row b50 25 [.int .i64 vt.v.k, .int .i64 vt.v.n, strV vt.v.t, .slice vt.sA vt.v.s.length vt.sC]] :: ZT :: [row rb 152 [.slice A0 raw.length c0, .int .i64 (((gotVal raw p 0).p : Nat) : Int), .int .i64 (((gotVal raw p 0).y : Nat) : Int)]] :: X :: []) w60 := hA61
      refine vc_y hF rfl rfl (by decide) _ (y_assign rfl rfl) (fun a hF => ?_)
      refine vc_y hF rfl rfl (by decide) _ (y_assign rfl rfl) (fun a hF => ?_)
      refine vc_nil ?_
      refine hK21 _ _ ?_; clear  hK21 K21
      apply wp_seq_k; intro K22 hK22
      refine wp_region_lit ?_
      refine vc_y hF rfl rfl (by decide) _ (y_move rfl rfl) (fun a hF => ?_)
      refine vc_y hF rfl rfl (by decide) _ (y_move rfl rfl) (fun a hF => ?_)
      refine vc_y hF rfl rfl (by decide) _ (y_slice rfl Tryz.underlying27 ow_size5 rfl (.some (k := n2) rfl rfl) (.none _) hn2 hcR (show Value.slice (sub AR n2 cR 1) ((raw.drop p).length - n2) (cR - n2) = .slice (sub AR n2 cR 1) (raw.drop (p + n2)).length (cR - n2) by rw [← List.drop_drop, List.length_drop (i := n2)])) (fun a hF => ?_)
      refine vc_y hF rfl rfl (by decide) _ (y_assign rfl rfl) (fun a hF => ?_)
      refine vc_nil ?_
      refine hK22 _ _ ?_; clear  hK22 K22
      apply wp_seq_k; intro K23 hK23
      refine wp_region_lit ?_
      refine vc_y hF rfl rfl (by decide) _ (y_move rfl rfl) (fun a hF => ?_)
      refine vc_y hF rfl rfl (by decide) _ (y_assign rfl rfl) (fun a hF => ?_)
      refine vc_nil ?_
      refine hK23 _ _ ?_; clear  hK23 K23
      apply wp_seq_k; intro K24 hK24
      refine wp_region_lit ?_
      refine vc_y hF rfl rfl (by decide) _ (y_move rfl rfl) (fun a hF => ?_)
      refine vc_y hF rfl rfl (by decide) _ (y_move rfl rfl) (fun a hF => ?_)
      refine vc_y hF rfl rfl (by decide) _ (y_cmp rfl rfl rfl rfl (neq_f (by rw [hye]))) (fun a hF => ?_)
      refine vc_y hF rfl rfl (by decide) _ (y_move rfl rfl) (fun a hF => ?_)
      refine vc_yg hF rfl rfl rfl rfl (some_bool rfl) (by decide) _ (y_ldRow (new := [.int .i64 vt.v.k, .int .i64 vt.v.n, strV vt.v.t, .slice vt.sA vt.v.s.length vt.sC]) rfl hA61.q rfl 2 rfl rw25_v17 (Nat.le_of_ble_eq_true rfl) rfl) (fun a hF => ?_)
      refine vc_yg hF rfl rfl rfl rfl (some_bool rfl) (by decide) _ (y_ldRow (new := [.int .i64 vr.v.k, .int .i64 vr.v.n, strV vr.v.t, .slice vr.sA vr.v.s.length vr.sC]) rfl hA61.q rfl 0 rfl rw25_v17 (Nat.le_of_ble_eq_true rfl) rfl) (fun a hF => ?_)
      refine vc_opg hF rfl rfl rfl (some_bool rfl) (fun K hK => ws_call hF rfl (by decide) cl25_v17 rfl rfl ?_)
      with_reducible refine (ev_sameV vt vr _ hvt (List.cons_subset.2 ⟨(List.mem_cons_of_mem _ (List.mem_cons_of_mem _ (List.mem_cons_of_mem _ ((List.mem_cons_self ..))))), List.nil_subset _⟩) hvr (List.cons_subset.2 ⟨(List.mem_cons_of_mem _ ((List.mem_cons_self ..))), List.nil_subset _⟩) hA61 ).mono ?_
      rintro e' w62 ⟨rfl, hA63⟩
      refine ⟨_, rfl, fun a hF => hK _ _ ?_⟩
      clear hK K
      replace hA63 : Hp w0 ([row b57 25 [.int .i64 vr.v.k, .int .i64 vr.v.n, strV vr.v.t, .slice vr.sA vr.v.s.length vr.sC]] :: ZR :: [row b50 25 [.int .i64 vt.v.k, .int .i64 vt.v.n, strV vt.v.t, .slice vt.sA vt.v.s.length vt.sC]] :: ZT :: [row rb 152 [.slice A0 raw.length c0, .int .i64 (((gotVal raw p 0).p : Nat) : Int), .int .i64 (((gotVal raw p 0).y : Nat) : Int)]] :: X :: []) w62 := hA63
      rw [decide_eq_true hvv] at hF
      refine vc_yg hF rfl rfl rfl rfl (some_bool rfl) (by decide) _ (y_not rfl rfl rfl) (fun a hF => ?_)
      refine vc_y hF rfl rfl (by decide) _ (y_pickF rfl rfl rfl rfl) (fun a hF => ?_)
      refine vc_y hF rfl rfl (by decide) _ (y_move rfl rfl) (fun a hF => ?_)
      refine vc_yg hF rfl rfl rfl rfl (some_bool rfl) (by decide) _ (y_move rfl rfl) (fun a hF => ?_)
      have hA64 : Hp w0 ([row rb 152 [.slice A0 raw.length c0, .int .i64 (((gotVal raw p 0).p : Nat) : Int), .int .i64 (((gotVal raw p 0).y : Nat) : Int)]] :: X :: [row b57 25 [.int .i64 vr.v.k, .int .i64 vr.v.n, strV vr.v.t, .slice vr.sA vr.v.s.length vr.sC]] :: ZR :: [row b50 25 [.int .i64 vt.v.k, .int .i64 vt.v.n, strV vt.v.t, .slice vt.sA vt.v.s.length vt.sC]] :: ZT :: []) w62 := Hp.ord [[row b57 25 [.int .i64 vr.v.k, .int .i64 vr.v.n, strV vr.v.t, .slice vr.sA vr.v.s.length vr.sC]], ZR, [row b50 25 [.int .i64 vt.v.k, .int .i64 vt.v.n, strV vt.v.t, .slice vt.sA vt.v.s.length vt.sC]], ZT, [row rb 152 [.slice A0 raw.length c0, .int .i64 (((gotVal raw p 0).p : Nat) : Int), .int .i64 (((gotVal raw p 0).y : Nat) : Int)]], X] [] [4, 5, 0, 1, 2, 3] hA63 rfl
      refine vc_opg hF rfl rfl rfl (some_bool rfl) (fun K hK => ws_call hF rfl (by decide) cl52_v17 rfl rfl ?_)
      with_reducible refine (hr_left w0 _ ([row b57 25 [.int .i64 vr.v.k, .int .i64 vr.v.n, strV vr.v.t, .slice vr.sA vr.v.s.length vr.sC]] :: ZR :: [row b50 25 [.int .i64 vt.v.k, .int .i64 vt.v.n, strV vt.v.t, .slice vt.sA vt.v.s.length vt.sC]] :: ZT :: []) rb A0 raw c0 (gotVal raw p 0).p (gotVal raw p 0).y X hO hA64 hp2 (by omega) ).mono ?_
      rintro e' w65 ⟨rfl, hA66⟩
      refine ⟨_, rfl, fun a hF => hK _ _ ?_⟩
      clear hK K
      replace hA66 : Hp w0 ([row rb 152 [.slice A0 raw.length c0, .int .i64 (((gotVal raw p 0).p : Nat) : Int), .int .i64 (((gotVal raw p 0).y : Nat) : Int)]] :: X :: [row b57 25 [.int .i64 vr.v.k, .int .i64 vr.v.n, strV vr.v.t, .slice vr.sA vr.v.s.length vr.sC]] :: ZR :: [row b50 25 [.int .i64 vt.v.k, .int .i64 vt.v.n, strV vt.v.t, .slice vt.sA vt.v.s.length vt.sC]] :: ZT :: []) w65 := hA66
      refine vc_yg hF rfl rfl rfl rfl (some_bool rfl) (by decide) _ (y_move rfl rfl) (fun a hF => ?_)
      refine vc_yg hF rfl rfl rfl rfl (some_bool rfl) (by decide) _ (y_lenSl rfl Tryz.underlying27 rfl rfl) (fun a hF => ?_)
      refine vc_yg hF rfl rfl rfl rfl (some_bool rfl) (by decide) _ (y_cmp rfl rfl rfl rfl (neq_f (by rw [hpe, List.length_drop]))) (fun a hF => ?_)
      refine vc_y hF rfl rfl (by decide) _ (y_pickF rfl rfl rfl rfl) (fun a hF => ?_)
      refine vc_y hF rfl rfl (by decide) _ (y_move rfl rfl) (fun a hF => ?_)
      refine vc_yg hF rfl rfl rfl rfl (some_bool rfl) (by decide) _ (y_move rfl rfl) (fun a hF => ?_)
      refine vc_opg hF rfl rfl rfl (some_bool rfl) (fun K hK => ws_call hF rfl (by decide) cl53_v17 rfl rfl ?_)
      with_reducible refine (hr_why w0 _ ([row b57 25 [.int .i64 vr.v.k, .int .i64 vr.v.n, strV vr.v.t, .slice vr.sA vr.v.s.length vr.sC]] :: ZR :: [row b50 25 [.int .i64 vt.v.k, .int .i64 vt.v.n, strV vt.v.t, .slice vt.sA vt.v.s.length vt.sC]] :: ZT :: []) rb A0 raw c0 (gotVal raw p 0).p (gotVal raw p 0).y X hO hA66 ).mono ?_
      rintro e' w67 ⟨rfl, hA68⟩
      refine ⟨_, rfl, fun a hF => hK _ _ ?_⟩
      clear hK K
      replace hA68 : Hp w0 ([row rb 152 [.slice A0 raw.length c0, .int .i64 (((gotVal raw p 0).p : Nat) : Int), .int .i64 (((gotVal raw p 0).y : Nat) : Int)]] :: X :: [row b57 25 [.int .i64 vr.v.k, .int .i64 vr.v.n, strV vr.v.t, .slice vr.sA vr.v.s.length vr.sC]] :: ZR :: [row b50 25 [.int .i64 vt.v.k, .int .i64 vt.v.n, strV vt.v.t, .slice vt.sA vt.v.s.length vt.sC]] :: ZT :: []) w67 := hA68
      refine vc_yg hF rfl rfl rfl rfl (some_bool rfl) (by decide) _ (y_move rfl rfl) (fun a hF => ?_)
      refine vc_yg hF rfl rfl rfl rfl (some_bool rfl) (by decide) _ (y_cmp rfl rfl rfl rfl (neq_f (by rw [hye]))) (fun a hF => ?_)
      refine vc_y hF rfl rfl (by decide) _ (y_pickF rfl rfl rfl rfl) (fun a hF => ?_)
      refine vc_nil ?_
      refine hK24 _ _ ?_; clear  hK24 K24
      refine vc_false hF rfl ?_
      apply wp_skip
      refine hK17 _ _ ?_; clear  hK17 K17
      refine wp_region_lit ?_
      refine vc_y hF rfl rfl (by decide) _ (y_move rfl rfl) (fun a hF => ?_)
      refine vc_y hF rfl rfl (by decide) _ (y_add rfl rfl rfl (IntWalk.i64_in _ (by omega))) (fun a hF => ?_)
      refine vc_y hF rfl rfl (by decide) _ (y_assign rfl rfl) (fun a hF => ?_)
      refine vc_nil ?_
      rw [hpe, hye] at hA68
      have hA69 : Hp w0 ([row rb 152 [.slice A0 raw.length c0, .int .i64 ((p + n2 : Nat) : Int), .int .i64 ((y2 : Nat) : Int)]] :: X :: []) w67 := Hp.sel [[row rb 152 [.slice A0 raw.length c0, .int .i64 ((p + n2 : Nat) : Int), .int .i64 ((y2 : Nat) : Int)]], X, [row b57 25 [.int .i64 vr.v.k, .int .i64 vr.v.n, strV vr.v.t, .slice vr.sA vr.v.s.length vr.sC]], ZR, [row b50 25 [.int .i64 vt.v.k, .int .i64 vt.v.n, strV vt.v.t, .slice vt.sA vt.v.s.length vt.sC]], ZT] [] [0, 1] [2, 3, 4, 5] hA68 rfl
      exact ⟨i + 1, by omega, p + n2, y2, _, _, by omega, by omega, (by rw [List.length_drop] at hcR ⊢; omega), (by rw [← List.drop_drop]; exact Rd.drop hRR n2 hcR), hF.keep [15, 14, 13, 12] rfl, hA69⟩
    · refine vc_trueB hF rfl (neq_t (by omega)) ?_
      have hgb := gotVal_bad raw p hy
      have hpe : (gotVal raw p y).p = p := by rw [hgb]
      have hye : (gotVal raw p y).y = y := by rw [hgb]
      have hvz : vt.v = noVal := by rw [hvtv, hgb]
      apply wp_seq_k; intro K25 hK25
      apply wp_seq_k; intro K26 hK26
      refine wp_region_lit ?_
      refine vc_y hF rfl rfl (by decide) _ (y_move rfl rfl) (fun a hF => ?_)
      refine vc_y hF rfl rfl (by decide) _ (y_move rfl rfl) (fun a hF => ?_)
      refine vc_y hF rfl rfl (by decide) _ (y_cmp rfl rfl rfl rfl (neq_f (by rw [hye]))) (fun a hF => ?_)
      refine vc_y hF rfl rfl (by decide) _ (y_move rfl rfl) (fun a hF => ?_)
      refine vc_yg hF rfl rfl rfl rfl (some_bool rfl) (by decide) _ (y_ldRow (new := [.int .i64 vt.v.k, .int .i64 vt.v.n, strV vt.v.t, .slice vt.sA vt.v.s.length vt.sC]) rfl hA54.q rfl 0 rfl rw25_v17 (Nat.le_of_ble_eq_true rfl) rfl) (fun a hF => ?_)
      refine vc_yg hF rfl rfl rfl rfl (some_bool rfl) (by decide) _ (y_build0 rfl ev_bV0) (fun a hF => ?_)
      refine vc_opg hF rfl rfl rfl (some_bool rfl) (fun K hK => ws_call hF rfl (by decide) cl25_v17 rfl rfl ?_)
      with_reducible refine (ev_sameZ vt _ hvt (List.cons_subset.2 ⟨(List.mem_cons_of_mem _ ((List.mem_cons_self ..))), List.nil_subset _⟩) hA54 ).mono ?_
      rintro e' w70 ⟨rfl, hA71⟩
      refine ⟨_, rfl, fun a hF => hK _ _ ?_⟩
      clear hK K
      replace hA71 : Hp w0 ([row b50 25 [.int .i64 vt.v.k, .int .i64 vt.v.n, strV vt.v.t, .slice vt.sA vt.v.s.length vt.sC]] :: ZT :: [row rb 152 [.slice A0 raw.length c0, .int .i64 (((gotVal raw p y).p : Nat) : Int), .int .i64 (((gotVal raw p y).y : Nat) : Int)]] :: X :: []) w70 := hA71
      rw [decide_eq_true hvz] at hF
      refine vc_yg hF rfl rfl rfl rfl (some_bool rfl) (by decide) _ (y_not rfl rfl rfl) (fun a hF => ?_)
      refine vc_y hF rfl rfl (by decide) _ (y_pickF rfl rfl rfl rfl) (fun a hF => ?_)
      refine vc_y hF rfl rfl (by decide) _ (y_move rfl rfl) (fun a hF => ?_)
      refine vc_yg hF rfl rfl rfl rfl (some_bool rfl) (by decide) _ (y_move rfl rfl) (fun a hF => ?_)
      have hA72 : Hp w0 ([row rb 152 [.slice A0 raw.length c0, .int .i64 (((gotVal raw p y).p : Nat) : Int), .int .i64 (((gotVal raw p y).y : Nat) : Int)]] :: X :: [row b50 25 [.int .i64 vt.v.k, .int .i64 vt.v.n, strV vt.v.t, .slice vt.sA vt.v.s.length vt.sC]] :: ZT :: []) w70 := Hp.ord [[row b50 25 [.int .i64 vt.v.k, .int .i64 vt.v.n, strV vt.v.t, .slice vt.sA vt.v.s.length vt.sC]], ZT, [row rb 152 [.slice A0 raw.length c0, .int .i64 (((gotVal raw p y).p : Nat) : Int), .int .i64 (((gotVal raw p y).y : Nat) : Int)]], X] [] [2, 3, 0, 1] hA71 rfl
      refine vc_opg hF rfl rfl rfl (some_bool rfl) (fun K hK => ws_call hF rfl (by decide) cl52_v17 rfl rfl ?_)
      with_reducible refine (hr_left w0 _ ([row b50 25 [.int .i64 vt.v.k, .int .i64 vt.v.n, strV vt.v.t, .slice vt.sA vt.v.s.length vt.sC]] :: ZT :: []) rb A0 raw c0 (gotVal raw p y).p (gotVal raw p y).y X hO hA72 hp2 (by omega) ).mono ?_
      rintro e' w73 ⟨rfl, hA74⟩
      refine ⟨_, rfl, fun a hF => hK _ _ ?_⟩
      clear hK K
      replace hA74 : Hp w0 ([row rb 152 [.slice A0 raw.length c0, .int .i64 (((gotVal raw p y).p : Nat) : Int), .int .i64 (((gotVal raw p y).y : Nat) : Int)]] :: X :: [row b50 25 [.int .i64 vt.v.k, .int .i64 vt.v.n, strV vt.v.t, .slice vt.sA vt.v.s.length vt.sC]] :: ZT :: []) w73 := hA74
      refine vc_yg hF rfl rfl rfl rfl (some_bool rfl) (by decide) _ (y_move rfl rfl) (fun a hF => ?_)
      refine vc_yg hF rfl rfl rfl rfl (some_bool rfl) (by decide) _ (y_lenSl rfl Tryz.underlying27 rfl rfl) (fun a hF => ?_)
      refine vc_yg hF rfl rfl rfl rfl (some_bool rfl) (by decide) _ (y_cmp rfl rfl rfl rfl (neq_f (by rw [hpe, List.length_drop]))) (fun a hF => ?_)
      refine vc_y hF rfl rfl (by decide) _ (y_pickF rfl rfl rfl rfl) (fun a hF => ?_)
      refine vc_y hF rfl rfl (by decide) _ (y_move rfl rfl) (fun a hF => ?_)
      refine vc_yg hF rfl rfl rfl rfl (some_bool rfl) (by decide) _ (y_move rfl rfl) (fun a hF => ?_)
      refine vc_opg hF rfl rfl rfl (some_bool rfl) (fun K hK => ws_call hF rfl (by decide) cl53_v17 rfl rfl ?_)
      with_reducible refine (hr_why w0 _ ([row b50 25 [.int .i64 vt.v.k, .int .i64 vt.v.n, strV vt.v.t, .slice vt.sA vt.v.s.length vt.sC]] :: ZT :: []) rb A0 raw c0 (gotVal raw p y).p (gotVal raw p y).y X hO hA74 ).mono ?_
      rintro e' w75 ⟨rfl, hA76⟩
      refine ⟨_, rfl, fun a hF => hK _ _ ?_⟩
      clear hK K
      replace hA76 : Hp w0 ([row rb 152 [.slice A0 raw.length c0, .int .i64 (((gotVal raw p y).p : Nat) : Int), .int .i64 (((gotVal raw p y).y : Nat) : Int)]] :: X :: [row b50 25 [.int .i64 vt.v.k, .int .i64 vt.v.n, strV vt.v.t, .slice vt.sA vt.v.s.length vt.sC]] :: ZT :: []) w75 := hA76
      refine vc_yg hF rfl rfl rfl rfl (some_bool rfl) (by decide) _ (y_move rfl rfl) (fun a hF => ?_)
      refine vc_yg hF rfl rfl rfl rfl (some_bool rfl) (by decide) _ (y_cmp rfl rfl rfl rfl (neq_f (by rw [hye]))) (fun a hF => ?_)
      refine vc_y hF rfl rfl (by decide) _ (y_pickF rfl rfl rfl rfl) (fun a hF => ?_)
      refine vc_nil ?_
      refine hK26 _ _ ?_; clear  hK26 K26
      refine vc_false hF rfl ?_
      apply wp_skip
      refine hK25 _ _ ?_; clear  hK25 K25
      apply wp_exit
      refine hK17 _ _ ?_; clear hK19 K19 hK17 K17
      refine wp_region_lit ?_
      refine vc_y hF rfl rfl (by decide) _ (y_move rfl rfl) (fun a hF => ?_)
      refine vc_y hF rfl rfl (by decide) _ (y_add rfl rfl rfl (IntWalk.i64_in _ (by omega))) (fun a hF => ?_)
      refine vc_y hF rfl rfl (by decide) _ (y_assign rfl rfl) (fun a hF => ?_)
      refine vc_nil ?_
      rw [hpe, hye] at hA76
      have hA77 : Hp w0 ([row rb 152 [.slice A0 raw.length c0, .int .i64 ((p : Nat) : Int), .int .i64 ((y : Nat) : Int)]] :: X :: []) w75 := Hp.sel [[row rb 152 [.slice A0 raw.length c0, .int .i64 ((p : Nat) : Int), .int .i64 ((y : Nat) : Int)]], X, [row b50 25 [.int .i64 vt.v.k, .int .i64 vt.v.n, strV vt.v.t, .slice vt.sA vt.v.s.length vt.sC]], ZT] [] [0, 1] [2, 3] hA76 rfl
      exact ⟨i + 1, by omega, p, y, _, _, by omega, hp, hcR, hRR, hF.keep [15, 14, 13, 12] rfl, hA77⟩
  · refine vc_falseB hF rfl (lss_f (by omega)) ?_
    apply wp_exit
    refine hK13 _ _ ?_; clear hK15 K15 hK13 K13
    apply wp_seq_k; intro K27 hK27
    refine wp_region_lit ?_
    refine vc_op rfl (fun K hK => ws_call hF rfl (by decide) cl15_v17 rfl rfl ?_)
    with_reducible refine (ev_known _ hT hA46 ).mono ?_
    rintro e' w78 ⟨rfl, hA79⟩
    refine ⟨_, rfl, fun a hF => hK _ _ ?_⟩
    clear hK K
    replace hA79 : Hp w0 ([row rb 152 [.slice A0 raw.length c0, .int .i64 ((p : Nat) : Int), .int .i64 ((y : Nat) : Int)]] :: X :: []) w78 := hA79
    refine vc_y hF rfl rfl (by decide) _ (y_assign rfl rfl) (fun a hF => ?_)
    refine vc_nil ?_
    refine hK27 _ _ ?_; clear  hK27 K27
    apply wp_ret
    refine vc_ret1 hF Tryz.results10 rfl ?_
    have hA80 : Hp w0 ([]) w78 := Hp.sel [[row rb 152 [.slice A0 raw.length c0, .int .i64 ((p : Nat) : Int), .int .i64 ((y : Nat) : Int)]], X] [] [] [0, 1] hA79 rfl
    exact ⟨rfl, hA80.at0⟩
end Go.Proofs.YtepbmdlgdaedpaaGreatDoor
