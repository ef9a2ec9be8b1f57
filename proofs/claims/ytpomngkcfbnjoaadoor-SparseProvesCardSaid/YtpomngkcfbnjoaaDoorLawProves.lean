/- The law SparseProves walked. -/
import Derived.Test.YtpomngkcfbnjoaaDoorSpQ
import Derived.Test.YtpomngkcfbnjoaaDoorLawTwice
namespace Go.Proofs.YtpomngkcfbnjoaaDoor
open Go.RowKit Go.Dk
theorem rw23_s15l : isRow Tryd.prog 23 32 = true := by kernel_rfl
theorem rw45_s15l : isRow Tryd.prog 45 2 = true := by kernel_rfl
theorem sz23_s15l : (Tryd.prog.info? 23).map (·.size) = some 32 := by kernel_rfl
theorem sz45_s15l : (Tryd.prog.info? 45).map (·.size) = some 2 := by kernel_rfl
theorem cl24_s15l : CallsTo Tryd.prog 24 := ⟨_, Tryd.func24, by kernel_rfl, by kernel_rfl⟩
theorem cl37_s15l : CallsTo Tryd.prog 37 := ⟨_, Tryd.func37, by kernel_rfl, by kernel_rfl⟩
theorem cl38_s15l : CallsTo Tryd.prog 38 := ⟨_, Tryd.func38, by kernel_rfl, by kernel_rfl⟩
theorem cl39_s15l : CallsTo Tryd.prog 39 := ⟨_, Tryd.func39, by kernel_rfl, by kernel_rfl⟩
theorem cl40_s15l : CallsTo Tryd.prog 40 := ⟨_, Tryd.func40, by kernel_rfl, by kernel_rfl⟩
theorem cl41_s15l : CallsTo Tryd.prog 41 := ⟨_, Tryd.func41, by kernel_rfl, by kernel_rfl⟩

theorem zr45_s15l : zeroIs Tryd.prog 45 (.agg ([.pointer none, .slice none 0 0] : List Value).toArray) := by unfold zeroIs; kernel_rfl

theorem rp_nil (w : World) : (Instr.buildSlice 26 0 #[]).run Tryd.prog w = .ok (.slice (some ⟨w.heap.size, 0, none⟩) 0 0) (w.alloc (.cells #[] 23)) := by kernel_rfl

set_option maxRecDepth 100000 in
set_option maxHeartbeats 2000000 in
theorem law_proves (w0 : World) (width : Int) (A : Option Addr) (l : List Itm) (n c : Nat) (KA : Option Addr) (ks : List (List UInt8)) (kn kc : Nat) (hT : Tab w0) (hln : l.length = n) (hlc : n ≤ c) (hI : ∀ i ∈ l, i.OK) (hL : Rc w0 [] A (cel Itm.cells l)) (hkn : ks.length = kn) (hkc : kn ≤ kc) (hks : ∀ d ∈ ks, d.length = 32) (hKS : Rc w0 [] KA (digV ks)) : Calls Tryd.prog 7 #[.int .i64 width, .slice A n c, .slice KA kn kc] w0 fun e w' => e = .returned (.bool true) ∧ At w0 [] w' := by
  have hA : Hp w0 [] w0 := Hp.start w0
  obtain ⟨er, L, hbe⟩ : ∃ er L, bldS [] (l.take 24) = (er, L) := ⟨_, _, rfl⟩
  have hLok : ∀ i ∈ L, i.OK := by have h := bldS_ok (acc := []) (l := l.take 24) (fun i hi => by cases hi) (fun i hi => hI i (List.mem_of_mem_take hi)); rw [hbe] at h; exact h
  have hLn : L.length ≤ 24 := by have h := bldS_len [] (l.take 24); rw [hbe, List.length_take] at h; simp only [List.length_nil] at h; omega
  refine vc_enter Tryd.func7 rfl Tryd.ntmps7 (Nat.le_of_ble_eq_true rfl) (fun a hF => ?_)
  apply wp_seq_k; intro K1 hK1
  refine wp_region_lit ?_
  refine vc_y hF rfl rfl (by decide) _ (y_assign rfl rfl) (fun a hF => ?_)
  refine vc_nil ?_
  refine hK1 _ _ ?_; clear  hK1 K1
  apply wp_seq_k; intro K2 hK2
  refine wp_region_lit ?_
  refine vc_y hF rfl rfl (by decide) _ (y_move rfl rfl) (fun a hF => ?_)
  refine vc_op rfl (fun K hK => ws_call hF rfl (by decide) cl37_s15l rfl rfl ?_)
  with_reducible refine (rr_tree w0 _ [] [] (List.nil_subset _) A l n c hln hlc hI hL hT hA ).mono ?_
  rintro e' w1 ⟨top, sl, rv, TX, RX, rfl, hTV, hRB, hA2⟩
  refine ⟨_, rfl, fun a hF => hK _ _ ?_⟩
  clear hK K
  replace hA2 : Hp w0 (TX :: RX :: []) w1 := hA2
  rw [hbe] at hTV hRB
  have hFn := hF
  obtain ⟨RA, rc, rfl, hrc, hRL⟩ := hRB.rc (w0 := w0) (R := [RX]) (List.mem_cons_self ..)
  have hF := hFn
  have tv1 : ∀ v ∈ ([top, sl] : List Value), v.oneCell' = true := fun v hv => by
    simp only [List.mem_cons, List.not_mem_nil, or_false] at hv
    rcases hv with rfl | rfl
    · exact hTV.one.1
    · exact hTV.one.2
  refine vc_y hF rfl rfl (by decide) _ (y_move rfl rfl) (fun a hF => ?_)
  refine vc_y hF rfl rfl (by decide) _ (y_extract (v := .agg ([top, sl]).toArray) rfl rfl rfl) (fun a hF => ?_)
  refine vc_y hF rfl rfl (by decide) _ (y_extract (v := .slice RA L.length rc) rfl rfl rfl) (fun a hF => ?_)
  refine vc_y hF rfl rfl (by decide) _ (y_extract (v := .bool true) rfl rfl rfl) (fun a hF => ?_)
  refine vc_op rfl (fun K hK => hs_alloc hF rfl (by decide) rfl hA2 (zr45_s15l) (fun b3 w4 a hb3 hF hA5 => hK _ _ ?_))
  clear hK K
  replace hA5 : Hp w0 ([row b3 45 [.pointer none, .slice none 0 0]] :: TX :: RX :: []) w4 := hA5
  refine vc_op rfl (fun K hK => hs_storeAll (new := [top, sl]) hF rfl rfl hA5 rfl rfl 0 rfl rfl tv1 sz45_s15l (fun w6 hA7 => hK _ _ ?_))
  clear hK K
  replace hA7 : Hp w0 ([row b3 45 [top, sl]] :: TX :: RX :: []) w6 := hA7
  refine vc_y hF rfl rfl (by decide) _ (y_assign rfl rfl) (fun a hF => ?_)
  refine vc_y hF rfl rfl (by decide) _ (y_assign rfl rfl) (fun a hF => ?_)
  refine vc_nil ?_
  refine hK2 _ _ ?_; clear  hK2 K2
  apply wp_seq_k; intro K3 hK3
  apply wp_seq_k; intro K4 hK4
  refine wp_region_lit ?_
  refine vc_y hF rfl rfl (by decide) _ (y_move rfl rfl) (fun a hF => ?_)
  refine vc_y hF rfl rfl (by decide) _ (y_not rfl rfl rfl) (fun a hF => ?_)
  refine vc_nil ?_
  refine hK4 _ _ ?_; clear  hK4 K4
  refine vc_false hF rfl ?_
  have hkd : ∀ d ∈ ks, d.length = 32 := hks
  have hk4 : (ks.take 4).length = min kn 4 := by rw [List.length_take, hkn]; omega
  have hKL : Rc w0 [] KA (digV (ks.take 4)) := by
    have e : digV ks = digV (ks.take 4) ++ digV (ks.drop 4) := by
      unfold digV; rw [← List.flatten_append, ← List.map_append, List.take_append_drop]
    have h1 := hKS.take (digV (ks.take 4)).length
    rw [e, List.take_left' rfl] at h1
    exact h1
  have hk4l : (digV (ks.take 4)).length = (min kn 4) * 32 := by
    rw [flat_len (z := 32) (fun W hW => by obtain ⟨d, hd, rfl⟩ := List.mem_map.1 hW; rw [dc_length]; exact hkd d (List.mem_of_mem_take hd)), List.length_map, hk4]
  have hl4l : (digV ((L.map (·.k)).take 4)).length = (min L.length 4) * 32 := by
    rw [flat_len (z := 32) (fun W hW => by obtain ⟨d, hd, rfl⟩ := List.mem_map.1 hW; obtain ⟨i, hi, rfl⟩ := List.mem_map.1 (List.mem_of_mem_take hd); rw [dc_length]; exact (hLok i hi).k), List.length_map, List.length_take, List.length_map]; omega
  apply wp_skip
  refine hK3 _ _ ?_; clear  hK3 K3
  apply wp_seq_k; intro K5 hK5
  refine wp_region_lit ?_
  refine vc_op rfl (fun K hK => hs_bs (qs := #[]) (cells := #[]) hF rfl (by decide) rfl hA7 rfl (by exact rp_nil) (fun b8 w9 a hb8 hF hA10 => hK _ _ ?_))
  clear hK K
  replace hA10 : Hp w0 ([row b8 23 []] :: [row b3 45 [top, sl]] :: TX :: RX :: []) w9 := hA10
  have hO0 := rt_eSlice b8
  refine vc_y hF rfl rfl (by decide) _ (y_move rfl rfl) (fun a hF => ?_)
  refine vc_op rfl (fun K hK => ws_call hF rfl (by decide) cl38_s15l rfl rfl ?_)
  with_reducible refine ((show Calls Tryd.prog 38 #[.slice KA kn kc, .int .i64 4] _ _ from rr_fewD w0 _ ([row b8 23 []] :: [row b3 45 [top, sl]] :: TX :: RX :: []) KA kn 4 kc hkc hA10) ).mono ?_
  rintro e' w11 ⟨rfl, hA12⟩
  refine ⟨_, rfl, fun a hF => hK _ _ ?_⟩
  clear hK K
  replace hA12 : Hp w0 ([row b8 23 []] :: [row b3 45 [top, sl]] :: TX :: RX :: []) w11 := hA12
  refine vc_op rfl (fun K hK => hs_append hF rfl (by decide) rfl hA12 0 rfl hO0 Tryd.underlying26 t7_elem rfl rfl (Rc.srcC (W := digV (ks.take 4)) (m := min kn 4) (size := 32) (R := [row b8 23 []] :: [row b3 45 [top, sl]] :: TX :: RX :: []) (hKL.mono (List.nil_subset _)) hA12.q Tryd.underlying26 (by decide) hk4l (digV_one _)) (by omega) (by decide) (fun lv1 XL1 w13 a hO1 hF hA14 => hK _ _ ?_))
  clear hK K
  replace hA14 : Hp w0 (XL1 :: [row b3 45 [top, sl]] :: TX :: RX :: []) w13 := hA14
  refine vc_y hF rfl rfl (by decide) _ (y_move rfl rfl) (fun a hF => ?_)
  refine vc_op rfl (fun K hK => ws_call hF rfl (by decide) cl39_s15l rfl rfl ?_)
  with_reducible refine (rr_keysof w0 _ (XL1 :: [row b3 45 [top, sl]] :: TX :: RX :: []) [RX] (sub1 (List.mem_cons_of_mem _ (List.mem_cons_of_mem _ (List.mem_cons_of_mem _ ((List.mem_cons_self ..)))))) RA L rc hrc (by omega) hLok hRL hA14 ).mono ?_
  rintro e' w15 ⟨kv, KX, rfl, hKB, hA16⟩
  refine ⟨_, rfl, fun a hF => hK _ _ ?_⟩
  clear hK K
  replace hA16 : Hp w0 (KX :: XL1 :: [row b3 45 [top, sl]] :: TX :: RX :: []) w15 := hA16
  have hFn := hF
  obtain ⟨LA, lc, rfl, hlc2, hRK⟩ := hKB.rc (w0 := w0) (R := [KX]) (List.mem_cons_self ..)
  have hF := hFn
  have hLL : Rc w0 [KX] LA (digV ((L.map (·.k)).take 4)) := by
    have e : digV (L.map (·.k)) = digV ((L.map (·.k)).take 4) ++ digV ((L.map (·.k)).drop 4) := by
      unfold digV; rw [← List.flatten_append, ← List.map_append, List.take_append_drop]
    have h1 := hRK.take (digV ((L.map (·.k)).take 4)).length
    rw [e, List.take_left' rfl] at h1
    exact h1
  refine vc_op rfl (fun K hK => ws_call hF rfl (by decide) cl38_s15l rfl rfl ?_)
  with_reducible refine ((show Calls Tryd.prog 38 #[.slice LA L.length lc, .int .i64 4] _ _ from rr_fewD w0 _ (KX :: XL1 :: [row b3 45 [top, sl]] :: TX :: RX :: []) LA L.length 4 lc hlc2 hA16) ).mono ?_
  rintro e' w17 ⟨rfl, hA18⟩
  refine ⟨_, rfl, fun a hF => hK _ _ ?_⟩
  clear hK K
  replace hA18 : Hp w0 (KX :: XL1 :: [row b3 45 [top, sl]] :: TX :: RX :: []) w17 := hA18
  refine vc_op rfl (fun K hK => hs_append hF rfl (by decide) rfl hA18 1 rfl hO1 Tryd.underlying26 t7_elem rfl rfl (Rc.srcC (W := digV ((L.map (·.k)).take 4)) (m := min L.length 4) (size := 32) (R := KX :: XL1 :: [row b3 45 [top, sl]] :: TX :: RX :: []) (hLL.mono (sub1 ((List.mem_cons_self ..)))) hA18.q Tryd.underlying26 (by decide) hl4l (digV_one _)) (by omega) (by decide) (fun lv2 XL2 w19 a hO2 hF hA20 => hK _ _ ?_))
  clear hK K
  replace hA20 : Hp w0 (KX :: XL2 :: [row b3 45 [top, sl]] :: TX :: RX :: []) w19 := hA20
  refine vc_y hF rfl rfl (by decide) _ (y_assign rfl rfl) (fun a hF => ?_)
  refine vc_nil ?_
  refine hK5 _ _ ?_; clear  hK5 K5
  apply wp_seq_k; intro K6 hK6
  apply wp_seq_k; intro K7 hK7
  refine wp_region_lit ?_
  refine vc_y hF rfl rfl (by decide) _ (y_assign rfl rfl) (fun a hF => ?_)
  refine vc_nil ?_
  refine hK7 _ _ ?_; clear  hK7 K7
  apply wp_block
  obtain ⟨K, hK, hKn⟩ : ∃ K : List (List UInt8), K = ks.take 4 ++ (L.map (·.k)).take 4 ∧ K.length = 0 + min kn 4 + min L.length 4 := ⟨_, rfl, by rw [List.length_append, hk4, List.length_take, List.length_map, Nat.zero_add]; omega⟩
  have hKd : ∀ d ∈ K, d.length = 32 := fun d hd => by
    rw [hK] at hd
    rcases List.mem_append.1 hd with h | h
    · exact hkd d (List.mem_of_mem_take h)
    · obtain ⟨i, hi, rfl⟩ := List.mem_map.1 (List.mem_of_mem_take h); exact (hLok i hi).k
  rw [List.nil_append, show digV (ks.take 4) ++ digV ((L.map (·.k)).take 4) = digV K by rw [hK]; unfold digV; rw [← List.flatten_append, ← List.map_append], ← hKn] at hO2
  have hFn := hF
  obtain ⟨DA, dcp, rfl, hdcp, hRD⟩ := hO2.rc (w0 := w0) (R := [XL2]) (List.mem_cons_self ..)
  have hF := hFn
  have hA21 : Hp w0 ([row b3 45 [top, sl]] :: XL2 :: RX :: TX :: []) w19 := Hp.sel [KX, XL2, [row b3 45 [top, sl]], TX, RX] [] [2, 1, 4, 3] [0] hA20 rfl
  refine vc_loop (G := Nat) (fun m a x => m ≤ K.length ∧ Fr 49 [(10, .int .i64 (m : Int)), (0, .int .i64 width), (2, .slice DA K.length dcp), (7, .pointer (some ⟨b3, 0, none⟩)), (8, .slice RA L.length rc)] a ∧ Hp w0 ([row b3 45 [top, sl]] :: XL2 :: RX :: TX :: []) x) (fun m => K.length - m) 0 (⟨Nat.zero_le _, hF.keep [10, 0, 2, 7, 8] rfl, hA21⟩) ?_
  clear hF
  rintro m a w23 ⟨hm, hF, hA22⟩
  apply wp_seq_k; intro K8 hK8
  apply wp_seq_k; intro K9 hK9
  refine wp_region_lit ?_
  refine vc_y hF rfl rfl (by decide) _ (y_move rfl rfl) (fun a hF => ?_)
  refine vc_y hF rfl rfl (by decide) _ (y_move rfl rfl) (fun a hF => ?_)
  refine vc_y hF rfl rfl (by decide) _ (y_lenSl rfl Tryd.underlying26 rfl rfl) (fun a hF => ?_)
  refine vc_y hF rfl rfl (by decide) _ (y_cmp rfl rfl rfl rfl rfl) (fun a hF => ?_)
  refine vc_nil ?_
  refine hK9 _ _ ?_; clear  hK9 K9
  by_cases hlt : m < K.length
  · refine vc_trueB hF rfl (lss_t (by omega)) ?_
    obtain ⟨k, hk⟩ : ∃ k, K[m]? = some k := ⟨_, List.getElem?_eq_getElem hlt⟩
    have hkl := hKd k (List.mem_of_getElem? hk)
    obtain ⟨hrd, hrb⟩ := Go.Dk.flat_at (z := 32) (Ws := K.map dc) (i := m) (V := dc k) (fun W hW => by obtain ⟨d, hd, rfl⟩ := List.mem_map.1 hW; rw [dc_length]; exact hKd d hd) (by rw [List.getElem?_map, hk]; rfl)
    obtain ⟨bk, qk, hAK, hck⟩ := hRD.ne (i := m * 32) (show m * 32 < (K.map dc).flatten.length by omega)
    apply wp_skip
    refine hK8 _ _ ?_; clear  hK8 K8
    apply wp_seq_k; intro K10 hK10
    apply wp_block
    apply wp_seq_k; intro K11 hK11
    refine wp_region_plan 15 [6,13,14,15] [0,1,2,3,4,5,7,8,9,10,11,12,6,13,14,15] (fun x => Hq w0 ([row b3 45 [top, sl]] :: XL2 :: RX :: TX :: []) x) (by kernel_rfl) (by kernel_rfl) (Hq.drew (Hp.qp [[row b3 45 [top, sl]], XL2, RX, TX] [] [0, 1, 2, 3] hA22)) ?_
    have hA24 := Hl.drew hA22
    refine vp_y hF rfl rfl rfl rfl (by decide) _ (fun x hx => y_ldRow (new := [top, sl]) rfl hx rfl 0 rfl rw45_s15l (Nat.le_of_ble_eq_true rfl) rfl) (fun a hF => ?_)
    refine vp_y hF rfl rfl rfl rfl (by decide) _ (fun x hx => y_move rfl rfl) (fun a hF => ?_)
    refine vp_y hF rfl rfl rfl rfl (by decide) _ (fun x hx => y_move rfl rfl) (fun a hF => ?_)
    refine vp_y hF rfl rfl rfl rfl (by decide) _ (fun x hx => y_move rfl rfl) (fun a hF => ?_)
    refine vp_y hF rfl rfl rfl rfl (by decide) _ (fun x hx => y_ixSl rfl Tryd.underlying26 sz23_s15l (by exact congrArg (fun A => some (Value.slice A K.length dcp)) hAK) rfl m rfl hlt rfl) (fun a hF => ?_)
    refine vp_y hF rfl rfl rfl rfl (by decide) _ (fun x hx => y_ldRowC rfl (Hq.sub hx (sub1 (List.mem_cons_of_mem _ ((List.mem_cons_self ..))))) rfl hck (m * 32) hrb rfl hrd rw23_s15l) (fun a hF => ?_)
    refine vp_y hF rfl rfl rfl rfl (by decide) _ (fun x hx => y_move rfl rfl) (fun a hF => ?_)
    refine vp_y hF rfl rfl rfl rfl (by decide) _ (fun x hx => y_move rfl rfl) (fun a hF => ?_)
    refine vp_y hF rfl rfl rfl rfl (by decide) _ (fun x hx => y_move rfl rfl) (fun a hF => ?_)
    refine vp_y hF rfl rfl rfl rfl (by decide) _ (fun x hx => y_move rfl rfl) (fun a hF => ?_)
    refine vp_y hF rfl rfl rfl rfl (by decide) _ (fun x hx => y_ixSl rfl Tryd.underlying26 sz23_s15l (by exact congrArg (fun A => some (Value.slice A K.length dcp)) hAK) rfl m rfl hlt rfl) (fun a hF => ?_)
    refine vp_y hF rfl rfl rfl rfl (by decide) _ (fun x hx => y_ldRowC rfl (Hq.sub hx (sub1 (List.mem_cons_of_mem _ ((List.mem_cons_self ..))))) rfl hck (m * 32) hrb rfl hrd rw23_s15l) (fun a hF => ?_)
    refine vp_l rfl rfl rfl (fun K hK => ws_call hF rfl (by decide) cl40_s15l rfl rfl ?_)
    with_reducible refine (rt_prove w0 _ ([row b3 45 [top, sl]] :: XL2 :: RX :: TX :: []) (TX :: []) (sub1 (List.mem_cons_of_mem _ (List.mem_cons_of_mem _ (List.mem_cons_of_mem _ ((List.mem_cons_self ..)))))) L top sl hTV width k hkl hT hA24 ).mono ?_
    rintro e' w25 ⟨s1, X1, rfl, hS1, hA26⟩
    refine ⟨_, rfl, fun a hF => hK _ _ (fun _ => ?_) ?_⟩
    · exact Hp.qp [X1, [row b3 45 [top, sl]], XL2, RX, TX] [] [1, 2, 3, 4] hA26
    clear hK K
    replace hA26 : Hp w0 (X1 :: [row b3 45 [top, sl]] :: XL2 :: RX :: TX :: []) w25 := hA26
    refine vp_l rfl rfl rfl (fun K hK => ws_call hF rfl (by decide) cl41_s15l rfl rfl ?_)
    with_reducible refine (rr_prove w0 _ (X1 :: [row b3 45 [top, sl]] :: XL2 :: RX :: TX :: []) [RX] (sub1 (List.mem_cons_of_mem _ (List.mem_cons_of_mem _ (List.mem_cons_of_mem _ ((List.mem_cons_self ..)))))) RA L rc hrc (by omega) hLok hRL width k hkl hA26 ).mono ?_
    rintro e' w27 ⟨s2, X2, rfl, hS2, hA28⟩
    refine ⟨_, rfl, fun a hF => hK _ _ (fun _ => ?_) ?_⟩
    · exact Hp.qp [X2, X1, [row b3 45 [top, sl]], XL2, RX, TX] [] [2, 3, 4, 5] hA28
    clear hK K
    replace hA28 : Hp w0 (X2 :: X1 :: [row b3 45 [top, sl]] :: XL2 :: RX :: TX :: []) w27 := hA28
    have hpp := prvP_ok (width := width) hLok k (Nat.le_refl 256)
    have hFn := hF
    obtain ⟨SA1, sc1, rfl, _, hR1⟩ := hS1.rc (w0 := w0) (R := [X1]) (List.mem_cons_self ..)
    obtain ⟨SA2, sc2, rfl, _, hR2⟩ := hS2.rc (w0 := w0) (R := [X2]) (List.mem_cons_self ..)
    have hF := hFn
    refine vp_l rfl rfl rfl (fun K hK => ws_call hF rfl (by decide) cl24_s15l rfl rfl ?_)
    with_reducible refine (sp_sameProofs w0 _ (X2 :: X1 :: [row b3 45 [top, sl]] :: XL2 :: RX :: TX :: []) [X1] [X2] (sub1 (List.mem_cons_of_mem _ ((List.mem_cons_self ..)))) (sub1 ((List.mem_cons_self ..))) _ _ SA1 SA2 sc1 sc2 hpp hpp hR1 hR2 hA28 ).mono ?_
    rintro e' w29 ⟨sb, rfl, hsb, hA30⟩
    refine ⟨_, rfl, fun a hF => hK _ _ (fun _ => ?_) ?_⟩
    · exact Hp.qp [X2, X1, [row b3 45 [top, sl]], XL2, RX, TX] [] [2, 3, 4, 5] hA30
    clear hK K
    replace hA30 : Hp w0 (X2 :: X1 :: [row b3 45 [top, sl]] :: XL2 :: RX :: TX :: []) w29 := hA30
    rw [hsb rfl] at hF
    refine vp_ly hF rfl rfl rfl rfl (by decide) _ (y_not rfl rfl rfl) (fun h => absurd h (by decide)) (fun a hF => ?_)
    refine plan_end ?_
    refine hK11 _ _ ?_; clear  hK11 K11
    refine vc_false hF rfl ?_
    apply wp_skip
    refine hK10 _ _ ?_; clear  hK10 K10
    refine wp_region_lit ?_
    refine vc_y hF rfl rfl (by decide) _ (y_move rfl rfl) (fun a hF => ?_)
    refine vc_y hF rfl rfl (by decide) _ (y_add rfl rfl rfl (IntWalk.i64_in _ (by omega))) (fun a hF => ?_)
    refine vc_y hF rfl rfl (by decide) _ (y_assign rfl rfl) (fun a hF => ?_)
    refine vc_nil ?_
    have hA31 : Hp w0 ([row b3 45 [top, sl]] :: XL2 :: RX :: TX :: []) w29 := Hp.sel [X2, X1, [row b3 45 [top, sl]], XL2, RX, TX] [] [2, 3, 4, 5] [0, 1] hA30 rfl
    exact ⟨m + 1, by omega, by omega, hF.keep [10, 0, 2, 7, 8] rfl, hA31⟩
  · refine vc_falseB hF rfl (lss_f (by omega)) ?_
    apply wp_exit
    refine hK6 _ _ ?_; clear hK8 K8 hK6 K6
    apply wp_seq_k; intro K12 hK12
    refine wp_region_lit ?_
    refine vc_y hF rfl rfl (by decide) _ (y_assign rfl rfl) (fun a hF => ?_)
    refine vc_nil ?_
    refine hK12 _ _ ?_; clear  hK12 K12
    apply wp_ret
    refine vc_ret1 hF Tryd.results7 rfl ?_
    exact ⟨rfl, hA22.at0⟩
end Go.Proofs.YtpomngkcfbnjoaaDoor
